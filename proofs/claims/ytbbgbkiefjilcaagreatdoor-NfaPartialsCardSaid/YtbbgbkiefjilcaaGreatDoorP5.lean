/-
  Functions of the program, lifted to plain data.
-/
import Derived.Sort.AssemblyPlain
import Derived.Test.YtbbgbkiefjilcaaGreatDoorP4
set_option linter.unusedVariables false
set_option linter.unusedSimpArgs false
set_option maxRecDepth 100000
namespace Go.AM
open Go.Proofs
noncomputable abbrev X9:Code:=bU Tryz.prog (az.aT 195)
noncomputable def zr (C:af) (s:List V) (t7 t8:Int) {β:Type} (kn:Int→Option β) (kr:((Int) ⊕ (Int × Bool))→Option β):Option β:=
 bif decide ((t8:Int)<t7) then
  (idx s t8).bind fun x1=>
  (C pU [.int .i64 ((x1.cell 0).toInt),.int .i64 ((x1.cell 1).toInt),.list ab ((x1.cell 2).toList)]).bind fun r2=>
  bif (V.nth r2 0).toBool then
  kr (.inl t8)
  else
  kn (IntKind.wrap .i64 (t8+1))
 else
  kr (.inr (t8,decide ((t8:Int)<t7)))
noncomputable def wq (C:af) (s:List V) (t7:Int):(Int)→Option ((Int) ⊕ ((Int) ⊕ (Int × Bool))):=fun t8=>zr C s t7 t8 (fun y=>some (.inl y)) (fun r=>some (.inr r))
noncomputable def Ya (C:af):cj:=fun β n ds k=>
 bif Nat.beq n 33 then bt OY [false,false,true] [[0],[1,2,0,0]] (@zr C) ds k else
 none
abbrev aiS (C:af) (b:cg):Prop:=ch Tryz.prog az C (Ya C) 195 (cv Tryz.prog (az.aT 195)) (az.sin 195).bf.length b
theorem aiT (C:af):aiS C (.loop (aq [1,0,1,0,0] X9)):=
 bw OY [false,false,true] [[0],[1,2,0,0]] (@zr C) (by kernel_rfl) (aM (bs:=[]) (by kernel_rfl) aw) (fun ds=>by kernel_rfl) (fun i x=>by kernel_rfl) (fun i x β k=>by kernel_rfl) (fun β ds k=>by kernel_rfl)
noncomputable def PL (C:af) (s:List V):Option (List V):=
 (Loop (wq C s (s.length:Int)) 0).bind (bD (fun (fN:Int)=>
  some [.int .i64 fN]) (un fun (jJ:Int) (kF:Bool)=>
  some [.int .i64 (-1)]))
theorem Yb {s:List V} {r:Option (List V)} (h:PL CC s=r):CC Ij [.list ab s]=r:=
 bn (key:=195) (L:=Ya CC) (bs:=[.loop (aq [1,0,1,0,0] X9)]) (by kernel_rfl) (aZ (aiT CC) aw) (bm (by kernel_rfl) h)
noncomputable abbrev Yc:Code:=bU Tryz.prog (az.aT 194)
noncomputable def zt (C:af) (i j:Int) (ss:List V) {β:Type} (kn:(Int × Int × (List V))→Option β) (kr:(Int × Int × Bool × (List V))→Option β):Option β:=
 bif decide ((j:Int)<(ss.length:Int)) then
  bif (decide (0≤j))&&(decide (j<(ss.length:Int))) then
  (ss[(j:Int).toNat]?).bind fun x2=>
  (C pU [.int .i64 ((x2.cell 0).toInt),.int .i64 ((x2.cell 1).toInt),.list ab ((x2.cell 2).toList)]).bind fun r3=>
  bif !((V.nth r3 0).toBool) then
   bif (decide (0≤i))&&(decide (i<(ss.length:Int))) then
   (ss[(i:Int).toNat]?).bind fun x4=>
   kn (IntKind.wrap .i64 (i+1),IntKind.wrap .i64 (j+1),ss.set ((i:Int).toNat) (.agg [.int .i64 ((x2.cell 0).toInt),.int .i64 ((x2.cell 1).toInt),.list ab ((x2.cell 2).toList)]))
   else none
  else
   kn (i,IntKind.wrap .i64 (j+1),ss)
  else none
 else
  kr (i,j,decide ((j:Int)<(ss.length:Int)),ss)
noncomputable def wu (C:af):(Int × Int × (List V))→Option ((Int × Int × (List V)) ⊕ (Int × Int × Bool × (List V))):=un fun i=>un fun j ss=>zt C i j ss (fun y=>some (.inl y)) (fun r=>some (.inr r))
noncomputable def Yd (C:af):cj:=fun β n ds k=>
 bif Nat.beq n 81 then bt OX [true,true,true] [[0,0,0,0]] (@zt C) ds k else
 none
abbrev aiU (C:af) (b:cg):Prop:=ch Tryz.prog az C (Yd C) 194 (cv Tryz.prog (az.aT 194)) (az.sin 194).bf.length b
theorem aiV (C:af):aiU C (.loop (aq [1,1,1,0,1,0,0] Yc)):=
 bw OX [true,true,true] [[0,0,0,0]] (@zt C) (by kernel_rfl) (aM (bs:=[]) (by kernel_rfl) aw) (fun ds=>by kernel_rfl) (fun i x=>by kernel_rfl) (fun i x β k=>by kernel_rfl) (fun β ds k=>by kernel_rfl)
noncomputable def PM (C:af) (ss:List V):Option (List V):=
 (C Ij [.list ab ss]).bind fun r1=>
 bif (((V.nth r1 0).toInt):Int)==(-1) then
  some [V.bool true,.list ab ss]
 else
  (Loop (wu C) ((V.nth r1 0).toInt,IntKind.wrap .i64 (((V.nth r1 0).toInt)+1),ss)).bind (un fun (cB:Int)=>un fun (Db:Int)=>un fun (sC:Bool) (dR:List V)=>
   bif (decide (0≤cB))&&(decide (cB≤(dR.length:Int))) then
   bif (decide (0≤cB))&&(decide (cB≤((dR.take ((cB:Int).toNat)++(List.replicate (dR.length-((cB:Int).toNat)) (V.agg [.int .i64 0,.int .i64 0,.list ab ([]:List V)])++dR.drop (((cB:Int).toNat)+(dR.length-((cB:Int).toNat))))).length:Int))) then
    some [V.bool false,.list ab ((dR.take ((cB:Int).toNat)++(List.replicate (dR.length-((cB:Int).toNat)) (V.agg [.int .i64 0,.int .i64 0,.list ab ([]:List V)])++dR.drop (((cB:Int).toNat)+(dR.length-((cB:Int).toNat))))).take ((cB:Int).toNat))]
   else none
   else none)
theorem Ye {ss:List V} {r:Option (List V)} (h:PM CC ss=r):CC Ii [.list ab ss]=r:=
 bn (key:=194) (L:=Yd CC) (bs:=[.loop (aq [1,1,1,0,1,0,0] Yc)]) (by kernel_rfl) (aZ (aiV CC) aw) (bm (by kernel_rfl) h)
noncomputable abbrev Yf:Code:=bU Tryz.prog (az.aT 190)
noncomputable def zu (C:af) (s:List V) (t7 t8:Int) {β:Type} (kn:Int→Option β) (kr:((Int) ⊕ (Int × Bool))→Option β):Option β:=
 bif decide ((t8:Int)<t7) then
  (idx s t8).bind fun x1=>
  (C nx [.int .i64 ((x1.cell 0).toInt),.int .i64 ((x1.cell 1).toInt),.list ab ((x1.cell 2).toList)]).bind fun r2=>
  bif (V.nth r2 0).toBool then
  kr (.inl t8)
  else
  kn (IntKind.wrap .i64 (t8+1))
 else
  kr (.inr (t8,decide ((t8:Int)<t7)))
noncomputable def wv (C:af) (s:List V) (t7:Int):(Int)→Option ((Int) ⊕ ((Int) ⊕ (Int × Bool))):=fun t8=>zu C s t7 t8 (fun y=>some (.inl y)) (fun r=>some (.inr r))
noncomputable def Yg (C:af):cj:=fun β n ds k=>
 bif Nat.beq n 33 then bt OV [false,false,true] [[0],[1,2,0,0]] (@zu C) ds k else
 none
abbrev aiW (C:af) (b:cg):Prop:=ch Tryz.prog az C (Yg C) 190 (cv Tryz.prog (az.aT 190)) (az.sin 190).bf.length b
theorem aiX (C:af):aiW C (.loop (aq [1,0,1,0,0] Yf)):=
 bw OV [false,false,true] [[0],[1,2,0,0]] (@zu C) (by kernel_rfl) (aM (bs:=[]) (by kernel_rfl) aw) (fun ds=>by kernel_rfl) (fun i x=>by kernel_rfl) (fun i x β k=>by kernel_rfl) (fun β ds k=>by kernel_rfl)
noncomputable def PN (C:af) (s:List V):Option (List V):=
 (Loop (wv C s (s.length:Int)) 0).bind (bD (fun (fN:Int)=>
  some [.int .i64 fN]) (un fun (jJ:Int) (kF:Bool)=>
  some [.int .i64 (-1)]))
theorem Yh {s:List V} {r:Option (List V)} (h:PN CC s=r):CC CF [.list ab s]=r:=
 bn (key:=190) (L:=Yg CC) (bs:=[.loop (aq [1,0,1,0,0] Yf)]) (by kernel_rfl) (aZ (aiX CC) aw) (bm (by kernel_rfl) h)
noncomputable def Yi (C:af) (s:List V):Option (List V):=
 (C CF [.list ab s]).bind fun r1=>
 some [.bool (decide ((((V.nth r1 0).toInt):Int)≥0))]
theorem aiY {s:List V} {r:Option (List V)} (h:Yi CC s=r):CC MO [.list ab s]=r:=
 bn (key:=189) (L:=cS) (bs:=[]) (by kernel_rfl) aw (bm (by kernel_rfl) h)
noncomputable abbrev Yj:Code:=bU Tryz.prog (az.aT 62)
noncomputable def zw (C:af) (i j:Int) (ss:List V) {β:Type} (kn:(Int × Int × (List V))→Option β) (kr:(Int × Int × Bool × (List V))→Option β):Option β:=
 bif decide ((j:Int)<(ss.length:Int)) then
  bif (decide (0≤j))&&(decide (j<(ss.length:Int))) then
  (ss[(j:Int).toNat]?).bind fun x2=>
  (C nx [.int .i64 ((x2.cell 0).toInt),.int .i64 ((x2.cell 1).toInt),.list ab ((x2.cell 2).toList)]).bind fun r3=>
  bif !((V.nth r3 0).toBool) then
   bif (decide (0≤i))&&(decide (i<(ss.length:Int))) then
   (ss[(i:Int).toNat]?).bind fun x4=>
   kn (IntKind.wrap .i64 (i+1),IntKind.wrap .i64 (j+1),ss.set ((i:Int).toNat) (.agg [.int .i64 ((x2.cell 0).toInt),.int .i64 ((x2.cell 1).toInt),.list ab ((x2.cell 2).toList)]))
   else none
  else
   kn (i,IntKind.wrap .i64 (j+1),ss)
  else none
 else
  kr (i,j,decide ((j:Int)<(ss.length:Int)),ss)
noncomputable def wx (C:af):(Int × Int × (List V))→Option ((Int × Int × (List V)) ⊕ (Int × Int × Bool × (List V))):=un fun i=>un fun j ss=>zw C i j ss (fun y=>some (.inl y)) (fun r=>some (.inr r))
noncomputable def Yk (C:af):cj:=fun β n ds k=>
 bif Nat.beq n 81 then bt NH [true,true,true] [[0,0,0,0]] (@zw C) ds k else
 none
abbrev aiZ (C:af) (b:cg):Prop:=ch Tryz.prog az C (Yk C) 62 (cv Tryz.prog (az.aT 62)) (az.sin 62).bf.length b
theorem ai0 (C:af):aiZ C (.loop (aq [1,1,1,0,1,0,0] Yj)):=
 bw NH [true,true,true] [[0,0,0,0]] (@zw C) (by kernel_rfl) (aM (bs:=[]) (by kernel_rfl) aw) (fun ds=>by kernel_rfl) (fun i x=>by kernel_rfl) (fun i x β k=>by kernel_rfl) (fun β ds k=>by kernel_rfl)
noncomputable def PO (C:af) (ss:List V):Option (List V):=
 (C CF [.list ab ss]).bind fun r1=>
 bif (((V.nth r1 0).toInt):Int)==(-1) then
  some [V.bool true,.list ab ss]
 else
  (Loop (wx C) ((V.nth r1 0).toInt,IntKind.wrap .i64 (((V.nth r1 0).toInt)+1),ss)).bind (un fun (cB:Int)=>un fun (Db:Int)=>un fun (sC:Bool) (dR:List V)=>
   bif (decide (0≤cB))&&(decide (cB≤(dR.length:Int))) then
   bif (decide (0≤cB))&&(decide (cB≤((dR.take ((cB:Int).toNat)++(List.replicate (dR.length-((cB:Int).toNat)) (V.agg [.int .i64 0,.int .i64 0,.list ab ([]:List V)])++dR.drop (((cB:Int).toNat)+(dR.length-((cB:Int).toNat))))).length:Int))) then
    some [V.bool false,.list ab ((dR.take ((cB:Int).toNat)++(List.replicate (dR.length-((cB:Int).toNat)) (V.agg [.int .i64 0,.int .i64 0,.list ab ([]:List V)])++dR.drop (((cB:Int).toNat)+(dR.length-((cB:Int).toNat))))).take ((cB:Int).toNat))]
   else none
   else none)
theorem Yl {ss:List V} {r:Option (List V)} (h:PO CC ss=r):CC vP [.list ab ss]=r:=
 bn (key:=62) (L:=Yk CC) (bs:=[.loop (aq [1,1,1,0,1,0,0] Yj)]) (by kernel_rfl) (aZ (ai0 CC) aw) (bm (by kernel_rfl) h)
end Go.AM
set_option maxRecDepth 100000
namespace Go.AM
open Go.Proofs Ex
def cY (k:Ex):Bool:=decide (k.op=1)
def iw (k:Ex):Bool:=decide (k.op=2)
theorem Dc (k:Ex):CC ny (ct k [])=some [.bool (cY k)]:=by
 refine aiK ?_
 unfold XZ cY
 rw[wg]
theorem I9 (k:Ex):CC pU (ct k [])=some [.bool (iw k)]:=by
 refine aiL ?_
 unfold X0 iw
 rw[wg]
theorem Dd (k:Ex):CC nx (ct k [])=some [.bool (univ k)]:=by
 obtain ⟨o,l,ks⟩:=k
 refine aiM ?_
 unfold X1 univ
 simp only[Ex.op,Ex.kids,cq,aC]
 by_cases h1:o=8
 ·rw[ag h1]
  match ks with
  | []=>simp
  | [k]=>
   rw[ag (by simp)]
   simp only[dZ,mU,List.getElem?_cons_zero,Option.bind_some,aH,aN,aK]
   refine (congrArg (fun o=>Option.bind o _) (Dc k)).trans ?_
   simp only[h1,cY]
   simp
   rfl
  | k::k2::ks=>
   rw[ah (by simp<;>omega)]
   simp
 ·rw[ah h1];simp[h1]
theorem iY {l:List Ex} {j:Nat} (h:j<l.length):l.take (j+1)=l.take j++[l.getD j aQ]:=by
 rw[List.take_succ_eq_append_getElem h];simp[h]
theorem uf {l ss:List Ex} {j:Nat} (hl:ss.length=l.length) (h:ss.drop j=l.drop j) (hj:j<l.length):ss.getD j aQ=l.getD j aQ:=by
 have h1:=congrArg (fun x:List Ex=>x.getD 0 aQ) h
 simpa[hj,hl] using h1
theorem iM {l:List Ex} {i:Nat} (h:i<l.length):(l.map enc)[i]? =some (l.getD i aQ).enc:=by simp[h]
theorem zx (ss:List Ex) (m:Nat) (z:V) (hm:m≤ss.length):((((ss.map enc).take m++(List.replicate ((ss.map enc).length-m) z++(ss.map enc).drop (m+((ss.map enc).length-m)))).take m)=(ss.take m).map enc):=by
 rw[List.take_append_of_le_length (by simp;omega),uI (by simp;omega),List.map_take]
theorem PQ {ks:List Ex} (hlen:ks.length≤1000000): ∀(aA pre:List Ex),ks=pre++aA→(∀k∈pre,cY k=false)→
  (ks.any cY=false∧∃t,Loop (wm CC (ks.map enc) ((ks.map enc).length:Int)) ((pre.length:Nat):Int)=some (.inr t))∨
  (∃i:Nat,i<ks.length∧cY (ks.getD i aQ)=true∧(∀k∈ks.take i,cY k=false)∧Loop (wm CC (ks.map enc) ((ks.map enc).length:Int)) ((pre.length:Nat):Int)=some (.inl (i:Int))):=by
 intro aA
 induction aA with
 | nil=>
  intro pre bd hp
  rw[dc] at bd
  subst bd
  refine .inl ⟨ua hp,⟨(((ks.length:Nat):Int),false),aG ?_⟩⟩
  ·simp only[wm,zp,aC,ar]
   rw[ah (by omega),cL (by omega)]
 | cons k aA ih=>
  intro pre bd hp
  have bM:pre.length<ks.length:=by rw[bd];simp
  have cf:idx (ks.map enc) (pre.length:Int)=some k.enc:=by rw[bd];exact fq _ _ _
  cases hk:cY k with
  | true=>
   refine .inr ⟨pre.length,bM,by rw[bd];simpa using hk,by rw[bd];simpa using hp,aG ?_⟩
   simp only[wm,zp,aC,ar]
   rw[ag (by omega),cf]
   simp only[Option.bind_some,aH,aN,aK]
   refine (congrArg (fun o=>Option.bind o _) (Dc k)).trans ?_
   simp only[Option.bind_some,V.aD,V.cI]
   rw[hk,cond_true]
  | false=>
   have bB:wm CC (ks.map enc) ((ks.map enc).length:Int) ((pre.length:Nat):Int)=some (.inl (((pre++[k]).length:Nat):Int)):=by
    simp only[wm,zp,aC,ar]
    rw[ag (by omega),cf]
    simp only[Option.bind_some,aH,aN,aK]
    refine (congrArg (fun o=>Option.bind o _) (Dc k)).trans ?_
    simp only[Option.bind_some,V.aD,V.cI]
    rw[hk,cond_false,wrap64 (by omega) (by omega)]
    simp
   rw[br bB]
   refine ih (pre++[k]) (by rw[bd];simp) fun x hx=> ?_
   rcases cZ.1 hx with hx|hx
   ·exact hp x hx
   ·rw[cV.1 hx];exact hk
theorem Ja {ks:List Ex} (hlen:ks.length≤1000000):
  (ks.any cY=false∧CC CE [.list ab (ks.map enc)]=some [.int .i64 (-1)])∨
  (∃i:Nat,i<ks.length∧cY (ks.getD i aQ)=true∧(∀k∈ks.take i,cY k=false)∧CC CE [.list ab (ks.map enc)]=some [.int .i64 (i:Int)]):=by
 rcases PQ hlen ks [] rfl (by simp) with ⟨h1,t,h2⟩|⟨i,h1,h2,h3,h4⟩
 ·refine .inl ⟨h1,X4 ?_⟩
  unfold PJ
  refine (congrArg (fun o=>Option.bind o _) h2).trans ?_
  rfl
 ·refine .inr ⟨i,h1,h2,h3,X4 ?_⟩
  unfold PJ
  refine (congrArg (fun o=>Option.bind o _) h4).trans ?_
  rfl
theorem ai1 {ks:List Ex} (hlen:ks.length≤1000000):CC CD [.list ab (ks.map enc)]=some [.bool (ks.any cY)]:=by
 refine aiP ?_
 unfold X5
 rcases Ja hlen with ⟨h1,h2⟩|⟨i,h1,h2,h3,h4⟩
 ·refine (congrArg (fun o=>Option.bind o _) h2).trans ?_
  rw[h1];rfl
 ·refine (congrArg (fun o=>Option.bind o _) h4).trans ?_
  rw[mh.2 ⟨_,by rw[show ks.getD i aQ=ks[i] by simp[h1]];exact tf h1,h2⟩]
  simp
theorem PR {ks:List Ex} (hn:ks.length≤1000000): ∀(d j i:Nat) (ss:List Ex),j+d=ks.length→i≤j→ss.length=ks.length→ss.take i=(ks.take j).filter (fun k=> !(cY k))→ss.drop j=ks.drop j→
  ∃t dK,Loop (wo CC) ((i:Int),(j:Int),ss.map enc)=some (((ks.filter (fun k=> !(cY k))).length:Int),(ks.length:Int),t,List.map enc dK)∧dK.take (ks.filter (fun k=> !(cY k))).length=ks.filter (fun k=> !(cY k))∧dK.length=ks.length:=by
 intro d
 induction d with
 | zero=>
  intro j i ss hj hi hl ht hd
  obtain rfl:j=ks.length:=by omega
  rw[ql] at ht
  have eE:i=(ks.filter (fun k=> !(cY k))).length:=by rw[←ht,dV];omega
  refine ⟨false,ss,aG ?_,by rw[←eE];exact ht,hl⟩
  simp only[wo,zq,un,aC,ar]
  rw[ah (by omega),cL (by omega),eE]
 | succ d ih=>
  intro j i ss hj hi hl ht hd
  have cp:j<ks.length:=by omega
  have hg:=uf hl hd cp
  have gm:ss.drop (j+1)=ks.drop (j+1):=by rw[←mV,←mV,hd]
  have hx:(ss.map enc)[j]? =some (ks.getD j aQ).enc:=by rw[iM (by omega),hg]
  have t1:((j:Nat):Int)<(ss.length:Int):=by omega
  have t2:(0:Int)≤((j:Nat):Int):=by omega
  have t3:((i:Nat):Int)<(ss.length:Int):=by omega
  have t4:(0:Int)≤((i:Nat):Int):=by omega
  have cf: ∃y,(ss.map enc)[i]? =some y:=⟨_,iM (by omega)⟩
  obtain ⟨y,hy⟩:=cf
  cases hk:cY (ks.getD j aQ) with
  | true=>
   have bB:wo CC ((i:Int),(j:Int),ss.map enc)=some (.inl ((i:Int),((j+1:Nat):Int),ss.map enc)):=by
    simp only[wo,zq,un,aC,ar,bK,t1,t2,cy,Int.toNat_natCast,hx,Option.bind_some,aH,aN,aK]
    refine (congrArg (fun o=>Option.bind o _) (Dc (ks.getD j aQ))).trans ?_
    simp only[Option.bind_some,V.aD,V.cI]
    rw[hk,oj,cond_false,wrap64 (by omega) (by omega)]
    rfl
   rw[br bB]
   refine ih (j+1) i ss (by omega) (by omega) hl ?_ gm
   rw[iY cp,mX,ht,mW,hk]
   simp
  | false=>
   have bB:wo CC ((i:Int),(j:Int),ss.map enc)=some (.inl (((i+1:Nat):Int),((j+1:Nat):Int),(ss.set i (ks.getD j aQ)).map enc)):=by
    simp only[wo,zq,un,aC,ar,bK,t1,t2,t3,t4,cy,Int.toNat_natCast,hx,hy,Option.bind_some,aH,aN,aK]
    refine (congrArg (fun o=>Option.bind o _) (Dc (ks.getD j aQ))).trans ?_
    simp only[Option.bind_some,V.aD,V.cI]
    rw[hk,qq,cond_true,wrap64 (by omega) (by omega),wrap64 (by omega) (by omega),←fS,uK]
    rfl
   rw[br bB]
   refine ih (j+1) (i+1) (ss.set i (ks.getD j aQ)) (by omega) (by omega) (by simpa using hl) ?_ ?_
   ·rw[iY (by rw[kR];omega),xi (bN i),ht,iY cp,mX,mW,hk]
    simp[show i<ss.length by omega]
   ·rw[xj (by omega),gm]
theorem PS {ks:List Ex} (hn:ks.length≤1000000): ∃b,CC Ik [.list ab (ks.map enc)]=some [.bool b,.list ab ((ks.filter (fun k=> !(cY k))).map enc)]:=by
 rcases Ja hn with ⟨h1,h2⟩|⟨i,h1,h2,h3,h4⟩
 ·refine ⟨true,X8 ?_⟩
  unfold PK
  refine (congrArg (fun o=>Option.bind o _) h2).trans ?_
  rw[oo.2 fun k hk=>show (!(cY k))=true by rw[any_false (p:=cY) (by rw[h1];simp) k hk];rfl]
  rfl
 ·have hf:(ks.take (i+1)).filter (fun k=> !(cY k))=ks.take i:=by
   rw[iY h1,mX,mW,h2,oo.2 fun k hk=>show (!(cY k))=true by rw[h3 k hk];rfl]
   simp
  obtain ⟨t,dK,e1,e2,e3⟩:=PR hn (ks.length-(i+1)) (i+1) i ks (by omega) (by omega) rfl hf.symm rfl
  refine ⟨false,X8 ?_⟩
  unfold PK
  refine (congrArg (fun o=>Option.bind o _) h4).trans ?_
  simp only[Option.bind_some,V.aD,V.toInt_int,cq]
  rw[ah (by omega),wrap64 (by omega) (by omega)]
  refine (congrArg (fun o=>Option.bind o _) e1).trans ?_
  have hm:(ks.filter (fun k=> !(cY k))).length≤dK.length:=by rw[e3];exact uL _ _
  have t1:((((ks.filter (fun k=> !(cY k))).length:Nat):Int)≤((dK.map enc).length:Int)):=by rw[aC];omega
  simp only[Option.bind_some,un,bK,ar,Int.toNat_natCast]
  rw[ag (by omega),ag t1,ag (by omega),ag (by simp only[bO,dV,ta,jT];omega),zx _ _ _ hm,e2]
theorem ai2 {ks:List Ex} (hlen:ks.length≤1000000): ∀(aA pre:List Ex),ks=pre++aA→(∀k∈pre,iw k=false)→
  (ks.any iw=false∧∃t,Loop (wq CC (ks.map enc) ((ks.map enc).length:Int)) ((pre.length:Nat):Int)=some (.inr t))∨
  (∃i:Nat,i<ks.length∧iw (ks.getD i aQ)=true∧(∀k∈ks.take i,iw k=false)∧Loop (wq CC (ks.map enc) ((ks.map enc).length:Int)) ((pre.length:Nat):Int)=some (.inl (i:Int))):=by
 intro aA
 induction aA with
 | nil=>
  intro pre bd hp
  rw[dc] at bd
  subst bd
  refine .inl ⟨ua hp,⟨(((ks.length:Nat):Int),false),aG ?_⟩⟩
  ·simp only[wq,zr,aC,ar]
   rw[ah (by omega),cL (by omega)]
 | cons k aA ih=>
  intro pre bd hp
  have bM:pre.length<ks.length:=by rw[bd];simp
  have cf:idx (ks.map enc) (pre.length:Int)=some k.enc:=by rw[bd];exact fq _ _ _
  cases hk:iw k with
  | true=>
   refine .inr ⟨pre.length,bM,by rw[bd];simpa using hk,by rw[bd];simpa using hp,aG ?_⟩
   simp only[wq,zr,aC,ar]
   rw[ag (by omega),cf]
   simp only[Option.bind_some,aH,aN,aK]
   refine (congrArg (fun o=>Option.bind o _) (I9 k)).trans ?_
   simp only[Option.bind_some,V.aD,V.cI]
   rw[hk,cond_true]
  | false=>
   have bB:wq CC (ks.map enc) ((ks.map enc).length:Int) ((pre.length:Nat):Int)=some (.inl (((pre++[k]).length:Nat):Int)):=by
    simp only[wq,zr,aC,ar]
    rw[ag (by omega),cf]
    simp only[Option.bind_some,aH,aN,aK]
    refine (congrArg (fun o=>Option.bind o _) (I9 k)).trans ?_
    simp only[Option.bind_some,V.aD,V.cI]
    rw[hk,cond_false,wrap64 (by omega) (by omega)]
    simp
   rw[br bB]
   refine ih (pre++[k]) (by rw[bd];simp) fun x hx=> ?_
   rcases cZ.1 hx with hx|hx
   ·exact hp x hx
   ·rw[cV.1 hx];exact hk
theorem ai3 {ks:List Ex} (hlen:ks.length≤1000000):
  (ks.any iw=false∧CC Ij [.list ab (ks.map enc)]=some [.int .i64 (-1)])∨
  (∃i:Nat,i<ks.length∧iw (ks.getD i aQ)=true∧(∀k∈ks.take i,iw k=false)∧CC Ij [.list ab (ks.map enc)]=some [.int .i64 (i:Int)]):=by
 rcases ai2 hlen ks [] rfl (by simp) with ⟨h1,t,h2⟩|⟨i,h1,h2,h3,h4⟩
 ·refine .inl ⟨h1,Yb ?_⟩
  unfold PL
  refine (congrArg (fun o=>Option.bind o _) h2).trans ?_
  rfl
 ·refine .inr ⟨i,h1,h2,h3,Yb ?_⟩
  unfold PL
  refine (congrArg (fun o=>Option.bind o _) h4).trans ?_
  rfl
theorem ai4 {ks:List Ex} (hn:ks.length≤1000000): ∀(d j i:Nat) (ss:List Ex),j+d=ks.length→i≤j→ss.length=ks.length→ss.take i=(ks.take j).filter (fun k=> !(iw k))→ss.drop j=ks.drop j→
  ∃t dK,Loop (wu CC) ((i:Int),(j:Int),ss.map enc)=some (((ks.filter (fun k=> !(iw k))).length:Int),(ks.length:Int),t,List.map enc dK)∧dK.take (ks.filter (fun k=> !(iw k))).length=ks.filter (fun k=> !(iw k))∧dK.length=ks.length:=by
 intro d
 induction d with
 | zero=>
  intro j i ss hj hi hl ht hd
  obtain rfl:j=ks.length:=by omega
  rw[ql] at ht
  have eE:i=(ks.filter (fun k=> !(iw k))).length:=by rw[←ht,dV];omega
  refine ⟨false,ss,aG ?_,by rw[←eE];exact ht,hl⟩
  simp only[wu,zt,un,aC,ar]
  rw[ah (by omega),cL (by omega),eE]
 | succ d ih=>
  intro j i ss hj hi hl ht hd
  have cp:j<ks.length:=by omega
  have hg:=uf hl hd cp
  have gm:ss.drop (j+1)=ks.drop (j+1):=by rw[←mV,←mV,hd]
  have hx:(ss.map enc)[j]? =some (ks.getD j aQ).enc:=by rw[iM (by omega),hg]
  have t1:((j:Nat):Int)<(ss.length:Int):=by omega
  have t2:(0:Int)≤((j:Nat):Int):=by omega
  have t3:((i:Nat):Int)<(ss.length:Int):=by omega
  have t4:(0:Int)≤((i:Nat):Int):=by omega
  have cf: ∃y,(ss.map enc)[i]? =some y:=⟨_,iM (by omega)⟩
  obtain ⟨y,hy⟩:=cf
  cases hk:iw (ks.getD j aQ) with
  | true=>
   have bB:wu CC ((i:Int),(j:Int),ss.map enc)=some (.inl ((i:Int),((j+1:Nat):Int),ss.map enc)):=by
    simp only[wu,zt,un,aC,ar,bK,t1,t2,cy,Int.toNat_natCast,hx,Option.bind_some,aH,aN,aK]
    refine (congrArg (fun o=>Option.bind o _) (I9 (ks.getD j aQ))).trans ?_
    simp only[Option.bind_some,V.aD,V.cI]
    rw[hk,oj,cond_false,wrap64 (by omega) (by omega)]
    rfl
   rw[br bB]
   refine ih (j+1) i ss (by omega) (by omega) hl ?_ gm
   rw[iY cp,mX,ht,mW,hk]
   simp
  | false=>
   have bB:wu CC ((i:Int),(j:Int),ss.map enc)=some (.inl (((i+1:Nat):Int),((j+1:Nat):Int),(ss.set i (ks.getD j aQ)).map enc)):=by
    simp only[wu,zt,un,aC,ar,bK,t1,t2,t3,t4,cy,Int.toNat_natCast,hx,hy,Option.bind_some,aH,aN,aK]
    refine (congrArg (fun o=>Option.bind o _) (I9 (ks.getD j aQ))).trans ?_
    simp only[Option.bind_some,V.aD,V.cI]
    rw[hk,qq,cond_true,wrap64 (by omega) (by omega),wrap64 (by omega) (by omega),←fS,uK]
    rfl
   rw[br bB]
   refine ih (j+1) (i+1) (ss.set i (ks.getD j aQ)) (by omega) (by omega) (by simpa using hl) ?_ ?_
   ·rw[iY (by rw[kR];omega),xi (bN i),ht,iY cp,mX,mW,hk]
    simp[show i<ss.length by omega]
   ·rw[xj (by omega),gm]
theorem ai5 {ks:List Ex} (hn:ks.length≤1000000): ∃b,CC Ii [.list ab (ks.map enc)]=some [.bool b,.list ab ((ks.filter (fun k=> !(iw k))).map enc)]:=by
 rcases ai3 hn with ⟨h1,h2⟩|⟨i,h1,h2,h3,h4⟩
 ·refine ⟨true,Ye ?_⟩
  unfold PM
  refine (congrArg (fun o=>Option.bind o _) h2).trans ?_
  rw[oo.2 fun k hk=>show (!(iw k))=true by rw[any_false (p:=iw) (by rw[h1];simp) k hk];rfl]
  rfl
 ·have hf:(ks.take (i+1)).filter (fun k=> !(iw k))=ks.take i:=by
   rw[iY h1,mX,mW,h2,oo.2 fun k hk=>show (!(iw k))=true by rw[h3 k hk];rfl]
   simp
  obtain ⟨t,dK,e1,e2,e3⟩:=ai4 hn (ks.length-(i+1)) (i+1) i ks (by omega) (by omega) rfl hf.symm rfl
  refine ⟨false,Ye ?_⟩
  unfold PM
  refine (congrArg (fun o=>Option.bind o _) h4).trans ?_
  simp only[Option.bind_some,V.aD,V.toInt_int,cq]
  rw[ah (by omega),wrap64 (by omega) (by omega)]
  refine (congrArg (fun o=>Option.bind o _) e1).trans ?_
  have hm:(ks.filter (fun k=> !(iw k))).length≤dK.length:=by rw[e3];exact uL _ _
  have t1:((((ks.filter (fun k=> !(iw k))).length:Nat):Int)≤((dK.map enc).length:Int)):=by rw[aC];omega
  simp only[Option.bind_some,un,bK,ar,Int.toNat_natCast]
  rw[ag (by omega),ag t1,ag (by omega),ag (by simp only[bO,dV,ta,jT];omega),zx _ _ _ hm,e2]
theorem ai6 {ks:List Ex} (hlen:ks.length≤1000000): ∀(aA pre:List Ex),ks=pre++aA→(∀k∈pre,univ k=false)→
  (ks.any univ=false∧∃t,Loop (wv CC (ks.map enc) ((ks.map enc).length:Int)) ((pre.length:Nat):Int)=some (.inr t))∨
  (∃i:Nat,i<ks.length∧univ (ks.getD i aQ)=true∧(∀k∈ks.take i,univ k=false)∧Loop (wv CC (ks.map enc) ((ks.map enc).length:Int)) ((pre.length:Nat):Int)=some (.inl (i:Int))):=by
 intro aA
 induction aA with
 | nil=>
  intro pre bd hp
  rw[dc] at bd
  subst bd
  refine .inl ⟨ua hp,⟨(((ks.length:Nat):Int),false),aG ?_⟩⟩
  ·simp only[wv,zu,aC,ar]
   rw[ah (by omega),cL (by omega)]
 | cons k aA ih=>
  intro pre bd hp
  have bM:pre.length<ks.length:=by rw[bd];simp
  have cf:idx (ks.map enc) (pre.length:Int)=some k.enc:=by rw[bd];exact fq _ _ _
  cases hk:univ k with
  | true=>
   refine .inr ⟨pre.length,bM,by rw[bd];simpa using hk,by rw[bd];simpa using hp,aG ?_⟩
   simp only[wv,zu,aC,ar]
   rw[ag (by omega),cf]
   simp only[Option.bind_some,aH,aN,aK]
   refine (congrArg (fun o=>Option.bind o _) (Dd k)).trans ?_
   simp only[Option.bind_some,V.aD,V.cI]
   rw[hk,cond_true]
  | false=>
   have bB:wv CC (ks.map enc) ((ks.map enc).length:Int) ((pre.length:Nat):Int)=some (.inl (((pre++[k]).length:Nat):Int)):=by
    simp only[wv,zu,aC,ar]
    rw[ag (by omega),cf]
    simp only[Option.bind_some,aH,aN,aK]
    refine (congrArg (fun o=>Option.bind o _) (Dd k)).trans ?_
    simp only[Option.bind_some,V.aD,V.cI]
    rw[hk,cond_false,wrap64 (by omega) (by omega)]
    simp
   rw[br bB]
   refine ih (pre++[k]) (by rw[bd];simp) fun x hx=> ?_
   rcases cZ.1 hx with hx|hx
   ·exact hp x hx
   ·rw[cV.1 hx];exact hk
theorem Ym {ks:List Ex} (hlen:ks.length≤1000000):
  (ks.any univ=false∧CC CF [.list ab (ks.map enc)]=some [.int .i64 (-1)])∨
  (∃i:Nat,i<ks.length∧univ (ks.getD i aQ)=true∧(∀k∈ks.take i,univ k=false)∧CC CF [.list ab (ks.map enc)]=some [.int .i64 (i:Int)]):=by
 rcases ai6 hlen ks [] rfl (by simp) with ⟨h1,t,h2⟩|⟨i,h1,h2,h3,h4⟩
 ·refine .inl ⟨h1,Yh ?_⟩
  unfold PN
  refine (congrArg (fun o=>Option.bind o _) h2).trans ?_
  rfl
 ·refine .inr ⟨i,h1,h2,h3,Yh ?_⟩
  unfold PN
  refine (congrArg (fun o=>Option.bind o _) h4).trans ?_
  rfl
theorem ai7 {ks:List Ex} (hlen:ks.length≤1000000):CC MO [.list ab (ks.map enc)]=some [.bool (ks.any univ)]:=by
 refine aiY ?_
 unfold Yi
 rcases Ym hlen with ⟨h1,h2⟩|⟨i,h1,h2,h3,h4⟩
 ·refine (congrArg (fun o=>Option.bind o _) h2).trans ?_
  rw[h1];rfl
 ·refine (congrArg (fun o=>Option.bind o _) h4).trans ?_
  rw[mh.2 ⟨_,by rw[show ks.getD i aQ=ks[i] by simp[h1]];exact tf h1,h2⟩]
  simp
theorem ai8 {ks:List Ex} (hn:ks.length≤1000000): ∀(d j i:Nat) (ss:List Ex),j+d=ks.length→i≤j→ss.length=ks.length→ss.take i=(ks.take j).filter (fun k=> !(univ k))→ss.drop j=ks.drop j→
  ∃t dK,Loop (wx CC) ((i:Int),(j:Int),ss.map enc)=some (((ks.filter (fun k=> !(univ k))).length:Int),(ks.length:Int),t,List.map enc dK)∧dK.take (ks.filter (fun k=> !(univ k))).length=ks.filter (fun k=> !(univ k))∧dK.length=ks.length:=by
 intro d
 induction d with
 | zero=>
  intro j i ss hj hi hl ht hd
  obtain rfl:j=ks.length:=by omega
  rw[ql] at ht
  have eE:i=(ks.filter (fun k=> !(univ k))).length:=by rw[←ht,dV];omega
  refine ⟨false,ss,aG ?_,by rw[←eE];exact ht,hl⟩
  simp only[wx,zw,un,aC,ar]
  rw[ah (by omega),cL (by omega),eE]
 | succ d ih=>
  intro j i ss hj hi hl ht hd
  have cp:j<ks.length:=by omega
  have hg:=uf hl hd cp
  have gm:ss.drop (j+1)=ks.drop (j+1):=by rw[←mV,←mV,hd]
  have hx:(ss.map enc)[j]? =some (ks.getD j aQ).enc:=by rw[iM (by omega),hg]
  have t1:((j:Nat):Int)<(ss.length:Int):=by omega
  have t2:(0:Int)≤((j:Nat):Int):=by omega
  have t3:((i:Nat):Int)<(ss.length:Int):=by omega
  have t4:(0:Int)≤((i:Nat):Int):=by omega
  have cf: ∃y,(ss.map enc)[i]? =some y:=⟨_,iM (by omega)⟩
  obtain ⟨y,hy⟩:=cf
  cases hk:univ (ks.getD j aQ) with
  | true=>
   have bB:wx CC ((i:Int),(j:Int),ss.map enc)=some (.inl ((i:Int),((j+1:Nat):Int),ss.map enc)):=by
    simp only[wx,zw,un,aC,ar,bK,t1,t2,cy,Int.toNat_natCast,hx,Option.bind_some,aH,aN,aK]
    refine (congrArg (fun o=>Option.bind o _) (Dd (ks.getD j aQ))).trans ?_
    simp only[Option.bind_some,V.aD,V.cI]
    rw[hk,oj,cond_false,wrap64 (by omega) (by omega)]
    rfl
   rw[br bB]
   refine ih (j+1) i ss (by omega) (by omega) hl ?_ gm
   rw[iY cp,mX,ht,mW,hk]
   simp
  | false=>
   have bB:wx CC ((i:Int),(j:Int),ss.map enc)=some (.inl (((i+1:Nat):Int),((j+1:Nat):Int),(ss.set i (ks.getD j aQ)).map enc)):=by
    simp only[wx,zw,un,aC,ar,bK,t1,t2,t3,t4,cy,Int.toNat_natCast,hx,hy,Option.bind_some,aH,aN,aK]
    refine (congrArg (fun o=>Option.bind o _) (Dd (ks.getD j aQ))).trans ?_
    simp only[Option.bind_some,V.aD,V.cI]
    rw[hk,qq,cond_true,wrap64 (by omega) (by omega),wrap64 (by omega) (by omega),←fS,uK]
    rfl
   rw[br bB]
   refine ih (j+1) (i+1) (ss.set i (ks.getD j aQ)) (by omega) (by omega) (by simpa using hl) ?_ ?_
   ·rw[iY (by rw[kR];omega),xi (bN i),ht,iY cp,mX,mW,hk]
    simp[show i<ss.length by omega]
   ·rw[xj (by omega),gm]
theorem ai9 {ks:List Ex} (hn:ks.length≤1000000): ∃b,CC vP [.list ab (ks.map enc)]=some [.bool b,.list ab ((ks.filter (fun k=> !(univ k))).map enc)]:=by
 rcases Ym hn with ⟨h1,h2⟩|⟨i,h1,h2,h3,h4⟩
 ·refine ⟨true,Yl ?_⟩
  unfold PO
  refine (congrArg (fun o=>Option.bind o _) h2).trans ?_
  rw[oo.2 fun k hk=>show (!(univ k))=true by rw[any_false (p:=univ) (by rw[h1];simp) k hk];rfl]
  rfl
 ·have hf:(ks.take (i+1)).filter (fun k=> !(univ k))=ks.take i:=by
   rw[iY h1,mX,mW,h2,oo.2 fun k hk=>show (!(univ k))=true by rw[h3 k hk];rfl]
   simp
  obtain ⟨t,dK,e1,e2,e3⟩:=ai8 hn (ks.length-(i+1)) (i+1) i ks (by omega) (by omega) rfl hf.symm rfl
  refine ⟨false,Yl ?_⟩
  unfold PO
  refine (congrArg (fun o=>Option.bind o _) h4).trans ?_
  simp only[Option.bind_some,V.aD,V.toInt_int,cq]
  rw[ah (by omega),wrap64 (by omega) (by omega)]
  refine (congrArg (fun o=>Option.bind o _) e1).trans ?_
  have hm:(ks.filter (fun k=> !(univ k))).length≤dK.length:=by rw[e3];exact uL _ _
  have t1:((((ks.filter (fun k=> !(univ k))).length:Nat):Int)≤((dK.map enc).length:Int)):=by rw[aC];omega
  simp only[Option.bind_some,un,bK,ar,Int.toNat_natCast]
  rw[ag (by omega),ag t1,ag (by omega),ag (by simp only[bO,dV,ta,jT];omega),zx _ _ _ hm,e2]
end Go.AM
set_option maxRecDepth 100000
namespace Go.AM
open Go.Proofs Go.Sort
section
variable {α:Type} {enc:α→V}
def o6 (enc:α→V) (d:Array α):List V:=d.toList.map enc
theorem dg (d:Array α):(o6 enc d).length=d.size:=by simp[o6]
theorem dh (d:Array α) (i:Nat) (x:α):(o6 enc d).set i (enc x)=o6 enc (d.setIfInBounds i x):=by
 unfold o6;rw[Array.toList_setIfInBounds,uK]
variable [Inhabited α]
theorem dm {d:Array α} {i:Nat} (h:i<d.size):(o6 enc d)[i]? =some (enc d[i]!):=by
 unfold o6;rw[hY,s9,lD h,AQ d i h];rfl
theorem dM {d:Array α} {i j:Nat} {x:α} (h:i<d.size):(o6 enc (d.setIfInBounds j x))[i]? =some (enc (d.setIfInBounds j x)[i]!):=dm (by rw[dF];exact h)
theorem di (a b:Nat):(a:Int)+(b:Int)=((a+b:Nat):Int):=(Int.natCast_add a b).symm
theorem bW (a:Nat):(a:Int)+1=((a+1:Nat):Int):=rfl
theorem lU (a:Nat):((a+1:Nat):Int)-1=(a:Int):=by omega
theorem rm (a:Nat):(a:Int)*2=((a*2:Nat):Int):=by omega
theorem gx {a b:Nat} (h:b≤a):(a:Int)-(b:Int)=((a-b:Nat):Int):=by omega
theorem eS {a:Nat} (h:1≤a):(a:Int)-1=((a-1:Nat):Int):=by omega
theorem divC (a b:Nat):Int.tdiv (a:Int) (b:Int)=((a/b:Nat):Int):=by rw[Int.tdiv_eq_ediv_of_nonneg (by omega)];rfl
theorem hD {p:Prop} [Decidable p] (h:p):decide p=true:=dC h
theorem ke {p:Prop} [Decidable p] (h: ¬p):decide p=false:=cL h
variable {lt:α→α→Bool}
theorem PT (a j:Nat) (d:Array α):insInner lt a (j+1) d=if j+1>a&&lt d[j+1]! d[j]! then insInner lt a j (swp d (j+1) j) else d:=rfl
theorem De {a:Nat}: ∀(j:Nat) (d:Array α),(insInner lt a j d).size=d.size
 | 0,d=>rfl
 | j+1,d=>by
  rw[PT]
  split
  ·rw[De j,size_swp]
  ·rfl
theorem sG (hi first:Nat): ∀(n root:Nat) (d:Array α),hi-root≤n→(siftDown lt hi first root d).size=d.size:=by
 intro n
 induction n with
 | zero=>intro root d h;rw[siftDown,qk (by omega)]
 | succ n ih=>
  intro root d h
  rw[siftDown]
  split
  ·rfl
  ·split
   ·split
    ·rfl
    ·split
     ·rw[ih _ _ (by omega),size_swp]
     ·rfl
   ·split
    ·rfl
    ·rw[ih _ _ (by omega),size_swp]
theorem Df (hi first:Nat): ∀(k:Nat) (d:Array α),(heapBuild lt hi first k d).size=d.size
 | 0,d=>rfl
 | k+1,d=>by rw[heapBuild,Df,sG _ _ _ _ _ (bN _)]
end
end Go.AM
set_option maxRecDepth 100000
namespace Go.AM.SX
open Go.Proofs Ex
structure XE where
 e:Ex
 ok:e.Ok
instance:Inhabited XE:=⟨⟨.node 0 0 [],.node (by omega) (by omega) (by simp) (by simp)⟩⟩
namespace XE
def enc (x:XE):V:=x.e.enc
theorem aH (x:XE):(x.enc.cell 0).toInt=x.e.op:=Go.AM.aH x.e
theorem aN (x:XE):(x.enc.cell 1).toInt=x.e.letter:=Go.AM.aN x.e
theorem aK (x:XE):(x.enc.cell 2).toList=x.e.kids.map Ex.enc:=Go.AM.aK x.e
theorem re (x:XE):V.agg [.int .i64 x.e.op,.int .i64 x.e.letter,.list ab (x.e.kids.map Ex.enc)]=x.enc:=(Ex.fS x.e).symm
end XE
def cx (a b:XE):Int:=cmp a.e b.e
theorem iN (a b:XE):CC bu [.int .i64 a.e.op,.int .i64 a.e.letter,.list ab (a.e.kids.map Ex.enc),.int .i64 b.e.op,.int .i64 b.e.letter,.list ab (b.e.kids.map Ex.enc)]=some [.int .i64 (cx a b)]:=
 IM a.e a.ok b.e b.ok
def XE.lt (a b:XE):Prop:=cx a b<0
theorem XE.lt_irrefl (a:XE): ¬a.lt a:=by unfold XE.lt cx;rw[zg];omega
theorem aja {a b c:Ex} (h1:cmp a b<0) (h2:cmp b c<0):cmp a c<0:=by
 have h3:=Pm a b c (by omega) (by omega)
 refine Decidable.byContradiction fun h=> ?_
 have h0:cmp a c=0:=by omega
 have:=tY a c h0
 subst this
 have:=tX a b
 omega
theorem XE.lt_trans {a b c:XE} (h1:a.lt b) (h2:b.lt c):a.lt c:=aja h1 h2
theorem XE.ajb {a b c:XE} (h1: ¬a.lt b) (h2: ¬b.lt c): ¬a.lt c:=by
 unfold XE.lt cx at*
 have a1:=tX a.e b.e
 have a2:=tX b.e c.e
 have a3:=tX a.e c.e
 have:=Pm c.e b.e a.e (by omega) (by omega)
 omega
end Go.AM.SX
set_option maxRecDepth 100000
namespace Go.AM
open Go.Proofs
noncomputable abbrev Jb:Code:=bU Tryz.prog (az.aT 127)
noncomputable def zy (C:af) (a b' i j:Int) (ae:List V) {β:Type} (kn:(Int × (List V))→Option β) (kr:(Int × Bool × (List V))→Option β):Option β:=
 bif decide ((j:Int)>a) then
  bif (decide (0≤j))&&(decide (j<(ae.length:Int))) then
  (ae[(j:Int).toNat]?).bind fun x1=>
  bif (decide (0≤(IntKind.wrap .i64 (j-1))))&&(decide ((IntKind.wrap .i64 (j-1))<(ae.length:Int))) then
   (ae[(IntKind.wrap .i64 (j-1):Int).toNat]?).bind fun x2=>
   (C bu [.int .i64 ((x1.cell 0).toInt),.int .i64 ((x1.cell 1).toInt),.list ab ((x1.cell 2).toList),.int .i64 ((x2.cell 0).toInt),.int .i64 ((x2.cell 1).toInt),.list ab ((x2.cell 2).toList)]).bind fun r3=>
   bif decide ((((V.nth r3 0).toInt):Int)<0) then
   bif (decide (0≤(IntKind.wrap .i64 (j-1))))&&(decide ((IntKind.wrap .i64 (j-1))<(ae.length:Int))) then
    (ae[(IntKind.wrap .i64 (j-1):Int).toNat]?).bind fun x4=>
    bif (decide (0≤j))&&(decide (j<(ae.length:Int))) then
    (ae[(j:Int).toNat]?).bind fun x5=>
    bif (decide (0≤j))&&(decide (j<(ae.length:Int))) then
     (ae[(j:Int).toNat]?).bind fun x6=>
     bif (decide (0≤(IntKind.wrap .i64 (j-1))))&&(decide ((IntKind.wrap .i64 (j-1))<((ae.set ((j:Int).toNat) (.agg [.int .i64 ((x4.cell 0).toInt),.int .i64 ((x4.cell 1).toInt),.list ab ((x4.cell 2).toList)])).length:Int))) then
     ((ae.set ((j:Int).toNat) (.agg [.int .i64 ((x4.cell 0).toInt),.int .i64 ((x4.cell 1).toInt),.list ab ((x4.cell 2).toList)]))[(IntKind.wrap .i64 (j-1):Int).toNat]?).bind fun x7=>
     kn (IntKind.wrap .i64 (j-1),(ae.set ((j:Int).toNat) (.agg [.int .i64 ((x4.cell 0).toInt),.int .i64 ((x4.cell 1).toInt),.list ab ((x4.cell 2).toList)])).set ((IntKind.wrap .i64 (j-1):Int).toNat) (.agg [.int .i64 ((x5.cell 0).toInt),.int .i64 ((x5.cell 1).toInt),.list ab ((x5.cell 2).toList)]))
     else none
    else none
    else none
   else none
   else
   kr (j,decide ((((V.nth r3 0).toInt):Int)<0),ae)
  else none
  else none
 else
  kr (j,false,ae)
noncomputable def zz (C:af) (a b' i:Int):(Int × (List V))→Option ((Int × (List V)) ⊕ (Int × Bool × (List V))):=un fun j ae=>zy C a b' i j ae (fun y=>some (.inl y)) (fun r=>some (.inr r))
noncomputable def Dg (C:af) (a b' i:Int) (ae:List V) {β:Type} (kn:(Int × (List V))→Option β) (kr:(Int × Bool × (List V))→Option β):Option β:=
 bif decide ((i:Int)<b') then
  (Loop (zz C a b' i) (i,ae)).bind (un fun (j_8:Int)=>un fun (oW:Bool) (iy:List V)=>
   kn (IntKind.wrap .i64 (i+1),iy))
 else
  kr (i,decide ((i:Int)<b'),ae)
noncomputable def Jc (C:af) (a b':Int):(Int × (List V))→Option ((Int × (List V)) ⊕ (Int × Bool × (List V))):=un fun i ae=>Dg C a b' i ae (fun y=>some (.inl y)) (fun r=>some (.inr r))
noncomputable def Yn (C:af):cj:=fun β n ds k=>
 bif Nat.beq n 65 then bt Ot [false,false,false,true,true] [[1,2,3,0,0,0]] (@zy C) ds k else
 bif Nat.beq n 17 then bt Ou [false,false,true,true] [[1,2,0,0,0]] (@Dg C) ds k else
 none
abbrev Yo (C:af) (b:cg):Prop:=ch Tryz.prog az C (Yn C) 127 (cv Tryz.prog (az.aT 127)) (az.sin 127).bf.length b
theorem ajc (C:af):Yo C (.loop (aq [1,0,0,1,0,0,1,0,0] Jb)):=
 bw Ot [false,false,false,true,true] [[1,2,3,0,0,0]] (@zy C) (by kernel_rfl) (aM (bs:=[]) (by kernel_rfl) aw) (fun ds=>by kernel_rfl) (fun i x=>by kernel_rfl) (fun i x β k=>by kernel_rfl) (fun β ds k=>by kernel_rfl)
theorem ajd (C:af):Yo C (.loop (aq [1,0,0] Jb)):=
 bw Ou [false,false,true,true] [[1,2,0,0,0]] (@Dg C) (by kernel_rfl) (aM (bs:=[.loop (aq [1,0,0,1,0,0,1,0,0] Jb)]) (by kernel_rfl) (aZ (ajc C) aw)) (fun ds=>by kernel_rfl) (fun i x=>by kernel_rfl) (fun i x β k=>by kernel_rfl) (fun β ds k=>by kernel_rfl)
noncomputable def Yp (C:af) (a b':Int) (ae:List V):Option (List V):=
 (Loop (Jc C a b') (IntKind.wrap .i64 (a+1),ae)).bind (un fun (aje:Int)=>un fun (CR:Bool) (wy:List V)=>
  some [.list ab wy])
theorem ajf {a b':Int} {ae:List V} {r:Option (List V)} (h:Yp CC a b' ae=r):CC Cv [.int .i64 a,.int .i64 b',.list ab ae]=r:=
 bn (key:=127) (L:=Yn CC) (bs:=[.loop (aq [1,0,0] Jb)]) (by kernel_rfl) (aZ (ajd CC) aw) (bm (by kernel_rfl) h)
noncomputable abbrev zA:Code:=bU Tryz.prog (az.aT 152)
noncomputable def wz (C:af) (hi first root child:Int) (t40:Bool) (ae:List V) {β:Type} (kr:(Int)→Option β):Option β:=
 bif t40 then
  kr (IntKind.wrap .i64 (child+1))
 else
  kr child
noncomputable def ug (C:af) (hi first root:Int) (ae:List V) {β:Type} (kn:(Int × (List V))→Option β) (kr:((Int × Int × Bool × (List V)) ⊕ (Int × Int × Bool × (List V)))→Option β):Option β:=
 bif decide (((IntKind.wrap .i64 ((IntKind.wrap .i64 (root*2))+1)):Int)≥hi) then
  kr (.inl (root,IntKind.wrap .i64 ((IntKind.wrap .i64 (root*2))+1),decide (((IntKind.wrap .i64 ((IntKind.wrap .i64 (root*2))+1)):Int)≥hi),ae))
 else
  bif decide (((IntKind.wrap .i64 ((IntKind.wrap .i64 ((IntKind.wrap .i64 (root*2))+1))+1)):Int)<hi) then
  bif (decide (0≤(IntKind.wrap .i64 (first+(IntKind.wrap .i64 ((IntKind.wrap .i64 (root*2))+1))))))&&(decide ((IntKind.wrap .i64 (first+(IntKind.wrap .i64 ((IntKind.wrap .i64 (root*2))+1))))<(ae.length:Int))) then
   (ae[(IntKind.wrap .i64 (first+(IntKind.wrap .i64 ((IntKind.wrap .i64 (root*2))+1))):Int).toNat]?).bind fun x1=>
   bif (decide (0≤(IntKind.wrap .i64 ((IntKind.wrap .i64 (first+(IntKind.wrap .i64 ((IntKind.wrap .i64 (root*2))+1))))+1))))&&(decide ((IntKind.wrap .i64 ((IntKind.wrap .i64 (first+(IntKind.wrap .i64 ((IntKind.wrap .i64 (root*2))+1))))+1))<(ae.length:Int))) then
   (ae[(IntKind.wrap .i64 ((IntKind.wrap .i64 (first+(IntKind.wrap .i64 ((IntKind.wrap .i64 (root*2))+1))))+1):Int).toNat]?).bind fun x2=>
   (C bu [.int .i64 ((x1.cell 0).toInt),.int .i64 ((x1.cell 1).toInt),.list ab ((x1.cell 2).toList),.int .i64 ((x2.cell 0).toInt),.int .i64 ((x2.cell 1).toInt),.list ab ((x2.cell 2).toList)]).bind fun r3=>
   wz C hi first root (IntKind.wrap .i64 ((IntKind.wrap .i64 (root*2))+1)) (decide ((((V.nth r3 0).toInt):Int)<0)) ae (fun (gK:Int)=>
    bif (decide (0≤(IntKind.wrap .i64 (first+root))))&&(decide ((IntKind.wrap .i64 (first+root))<(ae.length:Int))) then
     (ae[(IntKind.wrap .i64 (first+root):Int).toNat]?).bind fun x5=>
     bif (decide (0≤(IntKind.wrap .i64 (first+gK))))&&(decide ((IntKind.wrap .i64 (first+gK))<(ae.length:Int))) then
     (ae[(IntKind.wrap .i64 (first+gK):Int).toNat]?).bind fun x6=>
     (C bu [.int .i64 ((x5.cell 0).toInt),.int .i64 ((x5.cell 1).toInt),.list ab ((x5.cell 2).toList),.int .i64 ((x6.cell 0).toInt),.int .i64 ((x6.cell 1).toInt),.list ab ((x6.cell 2).toList)]).bind fun r7=>
     bif !(decide ((((V.nth r7 0).toInt):Int)<0)) then
      kr (.inr (root,gK,!(decide ((((V.nth r7 0).toInt):Int)<0)),ae))
     else
      bif (decide (0≤(IntKind.wrap .i64 (first+gK))))&&(decide ((IntKind.wrap .i64 (first+gK))<(ae.length:Int))) then
      (ae[(IntKind.wrap .i64 (first+gK):Int).toNat]?).bind fun x8=>
      bif (decide (0≤(IntKind.wrap .i64 (first+root))))&&(decide ((IntKind.wrap .i64 (first+root))<(ae.length:Int))) then
       (ae[(IntKind.wrap .i64 (first+root):Int).toNat]?).bind fun x9=>
       bif (decide (0≤(IntKind.wrap .i64 (first+root))))&&(decide ((IntKind.wrap .i64 (first+root))<(ae.length:Int))) then
       (ae[(IntKind.wrap .i64 (first+root):Int).toNat]?).bind fun fB=>
       bif (decide (0≤(IntKind.wrap .i64 (first+gK))))&&(decide ((IntKind.wrap .i64 (first+gK))<((ae.set ((IntKind.wrap .i64 (first+root):Int).toNat) (.agg [.int .i64 ((x8.cell 0).toInt),.int .i64 ((x8.cell 1).toInt),.list ab ((x8.cell 2).toList)])).length:Int))) then
        ((ae.set ((IntKind.wrap .i64 (first+root):Int).toNat) (.agg [.int .i64 ((x8.cell 0).toInt),.int .i64 ((x8.cell 1).toInt),.list ab ((x8.cell 2).toList)]))[(IntKind.wrap .i64 (first+gK):Int).toNat]?).bind fun fC=>
        kn (gK,(ae.set ((IntKind.wrap .i64 (first+root):Int).toNat) (.agg [.int .i64 ((x8.cell 0).toInt),.int .i64 ((x8.cell 1).toInt),.list ab ((x8.cell 2).toList)])).set ((IntKind.wrap .i64 (first+gK):Int).toNat) (.agg [.int .i64 ((x9.cell 0).toInt),.int .i64 ((x9.cell 1).toInt),.list ab ((x9.cell 2).toList)]))
       else none
       else none
      else none
      else none
     else none
    else none)
   else none
  else none
  else
  wz C hi first root (IntKind.wrap .i64 ((IntKind.wrap .i64 (root*2))+1)) false ae (fun (gL:Int)=>
   bif (decide (0≤(IntKind.wrap .i64 (first+root))))&&(decide ((IntKind.wrap .i64 (first+root))<(ae.length:Int))) then
    (ae[(IntKind.wrap .i64 (first+root):Int).toNat]?).bind fun dS=>
    bif (decide (0≤(IntKind.wrap .i64 (first+gL))))&&(decide ((IntKind.wrap .i64 (first+gL))<(ae.length:Int))) then
    (ae[(IntKind.wrap .i64 (first+gL):Int).toNat]?).bind fun iz=>
    (C bu [.int .i64 ((dS.cell 0).toInt),.int .i64 ((dS.cell 1).toInt),.list ab ((dS.cell 2).toList),.int .i64 ((iz.cell 0).toInt),.int .i64 ((iz.cell 1).toInt),.list ab ((iz.cell 2).toList)]).bind fun pZ=>
    bif !(decide ((((V.nth pZ 0).toInt):Int)<0)) then
     kr (.inr (root,gL,!(decide ((((V.nth pZ 0).toInt):Int)<0)),ae))
    else
     bif (decide (0≤(IntKind.wrap .i64 (first+gL))))&&(decide ((IntKind.wrap .i64 (first+gL))<(ae.length:Int))) then
     (ae[(IntKind.wrap .i64 (first+gL):Int).toNat]?).bind fun da=>
     bif (decide (0≤(IntKind.wrap .i64 (first+root))))&&(decide ((IntKind.wrap .i64 (first+root))<(ae.length:Int))) then
      (ae[(IntKind.wrap .i64 (first+root):Int).toNat]?).bind fun p5=>
      bif (decide (0≤(IntKind.wrap .i64 (first+root))))&&(decide ((IntKind.wrap .i64 (first+root))<(ae.length:Int))) then
      (ae[(IntKind.wrap .i64 (first+root):Int).toNat]?).bind fun kJ=>
      bif (decide (0≤(IntKind.wrap .i64 (first+gL))))&&(decide ((IntKind.wrap .i64 (first+gL))<((ae.set ((IntKind.wrap .i64 (first+root):Int).toNat) (.agg [.int .i64 ((da.cell 0).toInt),.int .i64 ((da.cell 1).toInt),.list ab ((da.cell 2).toList)])).length:Int))) then
       ((ae.set ((IntKind.wrap .i64 (first+root):Int).toNat) (.agg [.int .i64 ((da.cell 0).toInt),.int .i64 ((da.cell 1).toInt),.list ab ((da.cell 2).toList)]))[(IntKind.wrap .i64 (first+gL):Int).toNat]?).bind fun gM=>
       kn (gL,(ae.set ((IntKind.wrap .i64 (first+root):Int).toNat) (.agg [.int .i64 ((da.cell 0).toInt),.int .i64 ((da.cell 1).toInt),.list ab ((da.cell 2).toList)])).set ((IntKind.wrap .i64 (first+gL):Int).toNat) (.agg [.int .i64 ((p5.cell 0).toInt),.int .i64 ((p5.cell 1).toInt),.list ab ((p5.cell 2).toList)]))
      else none
      else none
     else none
     else none
    else none
   else none)
noncomputable def p6 (C:af) (hi first:Int):(Int × (List V))→Option ((Int × (List V)) ⊕ ((Int × Int × Bool × (List V)) ⊕ (Int × Int × Bool × (List V)))):=un fun root ae=>ug C hi first root ae (fun y=>some (.inl y)) (fun r=>some (.inr r))
noncomputable def Yq (C:af):cj:=fun β n ds k=>
 bif Nat.beq n 655 then fM OS [[1,2,3,0,6]] (@wz C) ds k else
 bif Nat.beq n 17 then bt OT [false,false,true,true] [[1,2,0,0,0,0],[1,2,0,0,0,0]] (@ug C) ds k else
 none
abbrev Yr (C:af) (b:cg):Prop:=ch Tryz.prog az C (Yq C) 152 (cv Tryz.prog (az.aT 152)) (az.sin 152).bf.length b
theorem ajg (C:af):Yr C (.cond 40 (aq [1,0,0,0,1,1,0,1,0] zA) (aq [1,0,0,0,1,1,0,1,1] zA)):=
 fX OS [[1,2,3,0,6]] (@wz C) (by kernel_rfl) (aM (bs:=[]) (by kernel_rfl) aw) (aM (bs:=[]) (by kernel_rfl) aw) (fun ds=>by kernel_rfl) (fun i β k=>by kernel_rfl) (fun β ds k=>by kernel_rfl)
theorem ajh (C:af):Yr C (.loop (aq [1,0,0] zA)):=
 bw OT [false,false,true,true] [[1,2,0,0,0,0],[1,2,0,0,0,0]] (@ug C) (by kernel_rfl) (aM (bs:=[.cond 40 (aq [1,0,0,0,1,1,0,1,0] zA) (aq [1,0,0,0,1,1,0,1,1] zA)]) (by kernel_rfl) (aZ (ajg C) aw)) (fun ds=>by kernel_rfl) (fun i x=>by kernel_rfl) (fun i x β k=>by kernel_rfl) (fun β ds k=>by kernel_rfl)
noncomputable def Ys (C:af) (lo hi first:Int) (ae:List V):Option (List V):=
 (Loop (p6 C hi first) (lo,ae)).bind (bD (un fun (aji:Int)=>un fun (ajj:Int)=>un fun (y9:Bool) (PU:List V)=>
  some [.list ab PU]) (un fun (ajk:Int)=>un fun (ajl:Int)=>un fun (CT:Bool) (jL:List V)=>
  some [.list ab jL]))
theorem ajm {lo hi first:Int} {ae:List V} {r:Option (List V)} (h:Ys CC lo hi first ae=r):CC CA [.int .i64 lo,.int .i64 hi,.int .i64 first,.list ab ae]=r:=
 bn (key:=152) (L:=Yq CC) (bs:=[.loop (aq [1,0,0] zA)]) (by kernel_rfl) (aZ (ajh CC) aw) (bm (by kernel_rfl) h)
noncomputable abbrev Jd:Code:=bU Tryz.prog (az.aT 128)
noncomputable def Dh (C:af) (first lo hi i:Int) (ae:List V) {β:Type} (kn:(Int × (List V))→Option β) (kr:(Int × Bool × (List V))→Option β):Option β:=
 bif decide ((i:Int)≥0) then
  (C CA [.int .i64 i,.int .i64 hi,.int .i64 first,.list ab ae]).bind fun r1=>
  kn (IntKind.wrap .i64 (i-1),(V.nth r1 0).toList)
 else
  kr (i,decide ((i:Int)≥0),ae)
noncomputable def Je (C:af) (first lo hi:Int):(Int × (List V))→Option ((Int × (List V)) ⊕ (Int × Bool × (List V))):=un fun i ae=>Dh C first lo hi i ae (fun y=>some (.inl y)) (fun r=>some (.inr r))
noncomputable def Di (C:af) (first lo i:Int) (ae:List V) {β:Type} (kn:(Int × (List V))→Option β) (kr:(Int × Bool × (List V))→Option β):Option β:=
 bif decide ((i:Int)≥0) then
  bif (decide (0≤(IntKind.wrap .i64 (first+i))))&&(decide ((IntKind.wrap .i64 (first+i))<(ae.length:Int))) then
  (ae[(IntKind.wrap .i64 (first+i):Int).toNat]?).bind fun x5=>
  bif (decide (0≤first))&&(decide (first<(ae.length:Int))) then
   (ae[(first:Int).toNat]?).bind fun x6=>
   bif (decide (0≤first))&&(decide (first<(ae.length:Int))) then
   (ae[(first:Int).toNat]?).bind fun x7=>
   bif (decide (0≤(IntKind.wrap .i64 (first+i))))&&(decide ((IntKind.wrap .i64 (first+i))<((ae.set ((first:Int).toNat) (.agg [.int .i64 ((x5.cell 0).toInt),.int .i64 ((x5.cell 1).toInt),.list ab ((x5.cell 2).toList)])).length:Int))) then
    ((ae.set ((first:Int).toNat) (.agg [.int .i64 ((x5.cell 0).toInt),.int .i64 ((x5.cell 1).toInt),.list ab ((x5.cell 2).toList)]))[(IntKind.wrap .i64 (first+i):Int).toNat]?).bind fun x8=>
    (C CA [.int .i64 lo,.int .i64 i,.int .i64 first,.list ab ((ae.set ((first:Int).toNat) (.agg [.int .i64 ((x5.cell 0).toInt),.int .i64 ((x5.cell 1).toInt),.list ab ((x5.cell 2).toList)])).set ((IntKind.wrap .i64 (first+i):Int).toNat) (.agg [.int .i64 ((x6.cell 0).toInt),.int .i64 ((x6.cell 1).toInt),.list ab ((x6.cell 2).toList)]))]).bind fun r9=>
    kn (IntKind.wrap .i64 (i-1),(V.nth r9 0).toList)
   else none
   else none
  else none
  else none
 else
  kr (i,decide ((i:Int)≥0),ae)
noncomputable def Jf (C:af) (first lo:Int):(Int × (List V))→Option ((Int × (List V)) ⊕ (Int × Bool × (List V))):=un fun i ae=>Di C first lo i ae (fun y=>some (.inl y)) (fun r=>some (.inr r))
noncomputable def Yt (C:af):cj:=fun β n ds k=>
 bif Nat.beq n 65 then bt Ov [false,false,false,true,true] [[1,2,3,0,0,0]] (@Dh C) ds k else
 bif Nat.beq n 129 then bt Ow [false,false,true,true] [[1,2,0,0,0]] (@Di C) ds k else
 none
abbrev Yu (C:af) (b:cg):Prop:=ch Tryz.prog az C (Yt C) 128 (cv Tryz.prog (az.aT 128)) (az.sin 128).bf.length b
theorem ajn (C:af):Yu C (.loop (aq [1,1,1,0,1,0,0] Jd)):=
 bw Ov [false,false,false,true,true] [[1,2,3,0,0,0]] (@Dh C) (by kernel_rfl) (aM (bs:=[]) (by kernel_rfl) aw) (fun ds=>by kernel_rfl) (fun i x=>by kernel_rfl) (fun i x β k=>by kernel_rfl) (fun β ds k=>by kernel_rfl)
theorem ajo (C:af):Yu C (.loop (aq [1,1,1,1,1,0,0] Jd)):=
 bw Ow [false,false,true,true] [[1,2,0,0,0]] (@Di C) (by kernel_rfl) (aM (bs:=[]) (by kernel_rfl) aw) (fun ds=>by kernel_rfl) (fun i x=>by kernel_rfl) (fun i x β k=>by kernel_rfl) (fun β ds k=>by kernel_rfl)
noncomputable def Yv (C:af) (a b':Int) (ae:List V):Option (List V):=
 (Loop (Je C a 0 (IntKind.wrap .i64 (b'-a))) (IntKind.wrap .i64 (Int.tdiv (IntKind.wrap .i64 ((IntKind.wrap .i64 (b'-a))-1)) 2),ae)).bind (un fun (i_2:Int)=>un fun (fN:Bool) (PV:List V)=>
  (Loop (Jf C a 0) (IntKind.wrap .i64 ((IntKind.wrap .i64 (b'-a))-1),PV)).bind (un fun (ajp:Int)=>un fun (CQ:Bool) (ga:List V)=>
   some [.list ab ga]))
theorem ajq {a b':Int} {ae:List V} {r:Option (List V)} (h:Yv CC a b' ae=r):CC Cw [.int .i64 a,.int .i64 b',.list ab ae]=r:=
 bn (key:=128) (L:=Yt CC) (bs:=[.loop (aq [1,1,1,0,1,0,0] Jd),.loop (aq [1,1,1,1,1,0,0] Jd)]) (by kernel_rfl) (aZ (ajn CC) (aZ (ajo CC) aw)) (bm (by kernel_rfl) h)
noncomputable abbrev Yw:Code:=bU Tryz.prog (az.aT 131)
noncomputable def zB (C:af) (i j:Int) (ae:List V) {β:Type} (kn:(Int × Int × (List V))→Option β) (kr:(Int × Int × Bool × (List V))→Option β):Option β:=
 bif decide ((i:Int)<j) then
  bif (decide (0≤j))&&(decide (j<(ae.length:Int))) then
  (ae[(j:Int).toNat]?).bind fun x1=>
  bif (decide (0≤i))&&(decide (i<(ae.length:Int))) then
   (ae[(i:Int).toNat]?).bind fun x2=>
   bif (decide (0≤i))&&(decide (i<(ae.length:Int))) then
   (ae[(i:Int).toNat]?).bind fun x3=>
   bif (decide (0≤j))&&(decide (j<((ae.set ((i:Int).toNat) (.agg [.int .i64 ((x1.cell 0).toInt),.int .i64 ((x1.cell 1).toInt),.list ab ((x1.cell 2).toList)])).length:Int))) then
    ((ae.set ((i:Int).toNat) (.agg [.int .i64 ((x1.cell 0).toInt),.int .i64 ((x1.cell 1).toInt),.list ab ((x1.cell 2).toList)]))[(j:Int).toNat]?).bind fun x4=>
    kn (IntKind.wrap .i64 (i+1),IntKind.wrap .i64 (j-1),(ae.set ((i:Int).toNat) (.agg [.int .i64 ((x1.cell 0).toInt),.int .i64 ((x1.cell 1).toInt),.list ab ((x1.cell 2).toList)])).set ((j:Int).toNat) (.agg [.int .i64 ((x2.cell 0).toInt),.int .i64 ((x2.cell 1).toInt),.list ab ((x2.cell 2).toList)]))
   else none
   else none
  else none
  else none
 else
  kr (i,j,decide ((i:Int)<j),ae)
noncomputable def Dj (C:af):(Int × Int × (List V))→Option ((Int × Int × (List V)) ⊕ (Int × Int × Bool × (List V))):=un fun i=>un fun j ae=>zB C i j ae (fun y=>some (.inl y)) (fun r=>some (.inr r))
noncomputable def Yx (C:af):cj:=fun β n ds k=>
 bif Nat.beq n 33 then bt OB [true,true,true] [[0,0,0,0]] (@zB C) ds k else
 none
abbrev ajr (C:af) (b:cg):Prop:=ch Tryz.prog az C (Yx C) 131 (cv Tryz.prog (az.aT 131)) (az.sin 131).bf.length b
theorem ajs (C:af):ajr C (.loop (aq [1,1,0,0] Yw)):=
 bw OB [true,true,true] [[0,0,0,0]] (@zB C) (by kernel_rfl) (aM (bs:=[]) (by kernel_rfl) aw) (fun ds=>by kernel_rfl) (fun i x=>by kernel_rfl) (fun i x β k=>by kernel_rfl) (fun β ds k=>by kernel_rfl)
noncomputable def Yy (C:af) (a b':Int) (ae:List V):Option (List V):=
 (Loop (Dj C) (a,IntKind.wrap .i64 (b'-1),ae)).bind (un fun (cB:Int)=>un fun (Db:Int)=>un fun (sC:Bool) (PW:List V)=>
  some [.list ab PW])
theorem ajt {a b':Int} {ae:List V} {r:Option (List V)} (h:Yy CC a b' ae=r):CC Ib [.int .i64 a,.int .i64 b',.list ab ae]=r:=
 bn (key:=131) (L:=Yx CC) (bs:=[.loop (aq [1,1,0,0] Yw)]) (by kernel_rfl) (aZ (ajs CC) aw) (bm (by kernel_rfl) h)
end Go.AM
set_option maxRecDepth 100000
set_option maxHeartbeats 4000000
namespace Go.AM.SX
open Go.Proofs Go.Sort
def an (a b:XE):Bool:=decide (cx a b<0)
theorem kK (a b:XE):(an a b=true)=(cx a b<0):=by unfold an;rw[dX]
theorem jM (a b:XE):((!an a b)=true)= ¬(cx a b<0):=by unfold an;simp
abbrev eA (d:Array XE):List V:=o6 XE.enc d
theorem PX (a j:Nat) (d:Array XE):insInner an a (j+1) d=if j+1>a then (if cx d[j+1]! d[j]! <0 then insInner an a j (swp d (j+1) j) else d) else d:=by
 rw[PT]
 by_cases h1:j+1>a
 ·rw[ag h1];simp only[h1,og,lE,kK]
 ·rw[ah h1,ah (by simp[h1])]
theorem wA (hi first root:Nat) (d:Array XE):siftDown an hi first root d=
  if 2*root+1≥hi then d else
   if 2*root+2<hi then
    (if cx d[first+(2*root+1)]! d[first+(2*root+2)]! <0 then
     (if cx d[first+root]! d[first+(2*root+2)]! <0 then siftDown an hi first (2*root+2) (swp d (first+root) (first+(2*root+2))) else d)
    else (if cx d[first+root]! d[first+(2*root+1)]! <0 then siftDown an hi first (2*root+1) (swp d (first+root) (first+(2*root+1))) else d))
   else (if cx d[first+root]! d[first+(2*root+1)]! <0 then siftDown an hi first (2*root+1) (swp d (first+root) (first+(2*root+1))) else d):=by
 rw[siftDown]
 by_cases h1:2*root+1≥hi
 ·rw[qk h1,ag h1]
 rw[dif_neg h1,ah h1]
 by_cases h2:2*root+2<hi
 ·rw[ag h2]
  by_cases h3:cx d[first+(2*root+1)]! d[first+(2*root+2)]! <0
  ·rw[ag h3,ag (by simp only[aU,dX,kK];exact ⟨h2,h3⟩)]
   simp only[jM]
   by_cases h4:cx d[first+root]! d[first+(2*root+2)]! <0
   ·rw[ah (jU h4),qk h2,ag h4]
   ·rw[ag h4,ah h4]
  ·rw[ah h3,ah (by simp only[aU,dX,kK];exact fun h=>h3 h.2)]
   simp only[jM]
   by_cases h4:cx d[first+root]! d[first+(2*root+1)]! <0
   ·rw[ah (jU h4),ag h4]
   ·rw[ag h4,ah h4]
 ·rw[ah h2,ah (by simp only[aU,dX,kK];exact fun h=>h2 h.1)]
  simp only[jM]
  by_cases h4:cx d[first+root]! d[first+(2*root+1)]! <0
  ·rw[ah (jU h4),ag h4]
  ·rw[ag h4,ah h4]
theorem Dk {a b i:Nat}: ∀(j:Nat) (d:Array XE),j<d.size→d.size<1152921504606846976→
  ∃j' t,Loop (zz CC a b i) ((j:Int),eA d)=some (j',t,eA (insInner an a j d))
 | 0,d,hj,hs=>⟨(0:Nat),false,aG (by
   simp (disch:=omega) only[zz,zy,un,ar,ah]
   rfl)⟩
 | j+1,d,hj,hs=>by
  obtain ⟨j',t,ih⟩:=Dk (a:=a) (b:=b) (i:=i) j (swp d (j+1) j) (by rw[size_swp];omega) (by rw[size_swp];omega)
  rw[PX]
  by_cases h1:j+1>a
  ·rw[ag h1]
   have e:zz CC a b i (((j+1:Nat):Int),eA d)=if cx d[j+1]! d[j]! <0 then some (.inl ((j:Int),eA (swp d (j+1) j))) else some (.inr (((j+1:Nat):Int),decide (cx d[j+1]! d[j]! <0),eA d)):=by
    simp (disch:=omega) only[zz,zy,un,ar,bK,dH,ag,ah,wrap64,bW,di,Int.toNat_natCast,Option.bind_some,dg,dm,XE.aH,XE.aN,XE.aK,XE.re,dh,dM,dF,iN,V.aD,V.toInt_int,cond_true,cond_false,lU]
    rfl
   by_cases h2:cx d[j+1]! d[j]! <0
   ·rw[ag h2] at e⊢
    exact ⟨j',t,(br e).trans ih⟩
   ·rw[ah h2] at e⊢
    exact ⟨_,_,aG e⟩
  ·rw[ah h1]
   exact ⟨((j+1:Nat):Int),false,aG (by
    simp (disch:=omega) only[zz,zy,un,ar,ah])⟩
theorem PY {a b:Nat}: ∀(n i:Nat) (d:Array XE),b-i=n→b≤d.size→d.size<1152921504606846976→
  ∃j' t,Loop (Jc CC a b) ((i:Int),eA d)=some (j',t,eA (insOuter an a b i d)):=by
 intro n
 induction n with
 | zero=>
  intro i d hn hb hs
  rw[insOuter,ah (by omega)]
  exact ⟨(i:Int),false,aG (by
   simp (disch:=omega) only[Jc,Dg,un,ke,cond_false])⟩
 | succ n ih=>
  intro i d hn hb hs
  obtain ⟨j1,t1,h1⟩:=Dk (a:=a) (b:=b) (i:=i) i d (by omega) hs
  obtain ⟨j',t,h2⟩:=ih (i+1) (insInner an a i d) (by omega) (by rw[De];omega) (by rw[De];omega)
  rw[insOuter,ag (by omega)]
  refine ⟨j',t,(br ?_).trans h2⟩
  simp (disch:=omega) only[Jc,Dg,un,ar,ag,h1,Option.bind_some,bW,wrap64]
theorem Dl {a b:Nat} {d:Array XE} (hb:b≤d.size) (hs:d.size<1152921504606846976) (ha:a<1152921504606846976):
  CC Cv [.int .i64 (a:Int),.int .i64 (b:Int),.list ab (eA d)]=some [.list ab (eA (insertionSort an d a b))]:=by
 refine ajf ?_
 unfold Yp
 obtain ⟨j',t,h⟩:=PY (a:=a) (b:=b) _ (a+1) d rfl hb hs
 simp (disch:=omega) only[bW,wrap64]
 rw[h]
 rfl
theorem PZ (hi first:Nat): ∀(n root:Nat) (d:Array XE),hi-root≤n→root<1152921504606846976→first+hi≤d.size→d.size<1152921504606846976→
  (∃x y z,Loop (p6 CC hi first) ((root:Int),eA d)=some (.inl (x,y,z,eA (siftDown an hi first root d))))∨
  (∃x y z,Loop (p6 CC hi first) ((root:Int),eA d)=some (.inr (x,y,z,eA (siftDown an hi first root d)))):=by
 intro n
 induction n with
 | zero=>
  intro root d hn hr hb hs
  rw[wA,ag (by omega)]
  exact .inl ⟨(root:Int),((root*2+1:Nat):Int),true,aG (by
   simp (disch:=omega) only[p6,ug,un,rm,bW,wrap64];rw[hD (by omega)];rfl)⟩
 | succ n ih=>
  intro root d hn hr hb hs
  by_cases h1:2*root+1≥hi
  ·rw[wA,ag h1]
   exact .inl ⟨(root:Int),((root*2+1:Nat):Int),true,aG (by
    simp (disch:=omega) only[p6,ug,un,rm,bW,wrap64];rw[hD (by omega)];rfl)⟩
  ·have go: ∀c:Nat,c<hi→root<c→(p6 CC hi first ((root:Int),eA d)=
      if cx d[first+root]! d[first+c]! <0 then some (.inl ((c:Int),eA (swp d (first+root) (first+c)))) else some (.inr (.inr ((root:Int),(c:Int),true,eA d))))→
     siftDown an hi first root d=(if cx d[first+root]! d[first+c]! <0 then siftDown an hi first c (swp d (first+root) (first+c)) else d)→
     ((∃x y z,Loop (p6 CC hi first) ((root:Int),eA d)=some (.inl (x,y,z,eA (siftDown an hi first root d))))∨
     (∃x y z,Loop (p6 CC hi first) ((root:Int),eA d)=some (.inr (x,y,z,eA (siftDown an hi first root d))))):=by
    intro c hc hrc e1 e2
    rw[e2]
    by_cases h3:cx d[first+root]! d[first+c]! <0
    ·rw[ag h3] at e1
     rw[ag h3,br e1]
     exact ih c _ (by omega) (by omega) (by rw[size_swp];omega) (by rw[size_swp];omega)
    ·rw[ah h3] at e1
     rw[ah h3,aG e1]
     exact .inr ⟨_,_,_,rfl⟩
   have e0:=wA hi first root d
   rw[ah h1] at e0
   by_cases h2:2*root+2<hi
   ·rw[ag h2] at e0
    by_cases h3:cx d[first+(2*root+1)]! d[first+(2*root+2)]! <0
    ·rw[ag h3] at e0
     refine go (2*root+2) (by omega) (by omega) ?_ e0
     rw[kS 2 root] at h3
     simp (disch:=omega) only[p6,ug,un,rm,bW,di,wrap64]
     rw[ar,ah (by omega),ar,ag (by omega)]
     simp (disch:=omega) only[wz,ar,bK,dH,ag,ah,wrap64,bW,di,Int.toNat_natCast,Option.bind_some,dg,dm,XE.aH,XE.aN,XE.aK,XE.re,dh,dM,dF,iN,V.aD,V.toInt_int,cond_true,cond_false,kS 2 root,hD]
     by_cases h4:cx d[first+root]! d[first+(root*2+2)]! <0
     ·simp only[h4,cy];rfl
     ·simp only[h4,fg];rfl
    ·rw[ah h3] at e0
     refine go (2*root+1) (by omega) (by omega) ?_ e0
     rw[kS 2 root] at h3
     simp (disch:=omega) only[p6,ug,un,rm,bW,di,wrap64]
     rw[ar,ah (by omega),ar,ag (by omega)]
     simp (disch:=omega) only[wz,ar,bK,dH,ag,ah,wrap64,bW,di,Int.toNat_natCast,Option.bind_some,dg,dm,XE.aH,XE.aN,XE.aK,XE.re,dh,dM,dF,iN,V.aD,V.toInt_int,cond_true,cond_false,kS 2 root,ke]
     by_cases h4:cx d[first+root]! d[first+(root*2+1)]! <0
     ·simp only[h4,cy];rfl
     ·simp only[h4,fg];rfl
   ·rw[ah h2] at e0
    refine go (2*root+1) (by omega) (by omega) ?_ e0
    simp (disch:=omega) only[p6,ug,un,rm,bW,di,wrap64]
    rw[ar,ah (by omega),ar,ah (by omega)]
    simp (disch:=omega) only[wz,ar,bK,dH,ag,ah,wrap64,bW,di,Int.toNat_natCast,Option.bind_some,dg,dm,XE.aH,XE.aN,XE.aK,XE.re,dh,dM,dF,iN,V.aD,V.toInt_int,cond_true,cond_false,kS 2 root]
    by_cases h4:cx d[first+root]! d[first+(root*2+1)]! <0
    ·simp only[h4,cy];rfl
    ·simp only[h4,fg];rfl
theorem Dm {lo hi first:Nat} {d:Array XE} (hl:lo<1152921504606846976) (hb:first+hi≤d.size) (hs:d.size<1152921504606846976):
  CC CA [.int .i64 (lo:Int),.int .i64 (hi:Int),.int .i64 (first:Int),.list ab (eA d)]=some [.list ab (eA (siftDown an hi first lo d))]:=by
 refine ajm ?_
 unfold Ys
 rcases PZ hi first _ lo d (bN _) hl hb hs with ⟨x,y,z,h⟩|⟨x,y,z,h⟩
 ·rw[h];rfl
 ·rw[h];rfl
theorem Dn {hi first:Nat}: ∀(k:Nat) (d:Array XE),k<1152921504606846976→first+hi≤d.size→d.size<1152921504606846976→
  ∃x y,Loop (Je CC first 0 hi) ((k:Int)-1,eA d)=some (x,y,eA (heapBuild an hi first k d))
 | 0,d,hk,hb,hs=>⟨-1,false,aG (by
   simp (disch:=omega) only[Je,Dh,un,ar,ah]
   rfl)⟩
 | k+1,d,hk,hb,hs=>by
  obtain ⟨x,y,ih⟩:=Dn (hi:=hi) (first:=first) k (siftDown an hi first k d) (by omega) (by rw[sG _ _ _ _ _ (bN _)];omega) (by rw[sG _ _ _ _ _ (bN _)];omega)
  refine ⟨x,y,(br ?_).trans ih⟩
  simp (disch:=omega) only[Je,Dh,un,ar,ag,lU,Dm,Option.bind_some,V.aD,V.e8,wrap64]
theorem Dp {first:Nat}: ∀(k:Nat) (d:Array XE),k<1152921504606846976→first+k≤d.size→d.size<1152921504606846976→
  ∃x y,Loop (Jf CC first 0) ((k:Int)-1,eA d)=some (x,y,eA (heapPop an first k d))
 | 0,d,hk,hb,hs=>⟨-1,false,aG (by
   simp (disch:=omega) only[Jf,Di,un,ar,ah]
   rfl)⟩
 | k+1,d,hk,hb,hs=>by
  obtain ⟨x,y,ih⟩:=Dp (first:=first) k (siftDown an k first 0 (swp d first (first+k))) (by omega) (by rw[sG _ _ _ _ _ (bN _),size_swp];omega) (by rw[sG _ _ _ _ _ (bN _),size_swp];omega)
  refine ⟨x,y,(br ?_).trans ih⟩
  have jD:=Dm (lo:=0) (hi:=k) (first:=first) (d:=swp d first (first+k)) (by omega) (by rw[size_swp];omega) (by rw[size_swp];omega)
  unfold swp at jD⊢
  rw[show ((0:Nat):Int)=0 from rfl] at jD
  simp (disch:=omega) only[Jf,Di,un,lU,ar,bK,dH,ag,ah,wrap64,bW,di,Int.toNat_natCast,Option.bind_some,dg,dm,XE.aH,XE.aN,XE.aK,XE.re,dh,dM,dF,iN,V.aD,V.toInt_int,cond_true,cond_false]
  rw[jD]
  simp (disch:=omega) only[Option.bind_some,V.aD,V.e8,wrap64]
theorem P0 {a b:Nat} {d:Array XE} (dq:a<b) (hb:b≤d.size) (hs:d.size<1152921504606846976):
  CC Cw [.int .i64 (a:Int),.int .i64 (b:Int),.list ab (eA d)]=some [.list ab (eA (heapSort an d a b))]:=by
 refine ajq ?_
 unfold Yv
 obtain ⟨x,y,h1⟩:=Dn (hi:=b-a) (first:=a) ((b-a-1)/2+1) d (by omega) (by omega) hs
 obtain ⟨x2,y2,h2⟩:=Dp (first:=a) (b-a) (heapBuild an (b-a) a ((b-a-1)/2+1) d) (by omega) (by rw[Df];omega) (by rw[Df];omega)
 have e1:((((b-a-1)/2+1:Nat):Int)-1)=Int.tdiv (((b-a:Nat):Int)-1) 2:=by
  rw[Int.tdiv_eq_ediv_of_nonneg (by omega)]
  omega
 rw[e1] at h1
 simp (disch:=omega) only[gx,wrap64]
 rw[h1]
 simp only[Option.bind_some,un]
 rw[h2]
 rfl
theorem P1: ∀(n i j:Nat) (d:Array XE),j-i≤n→j<d.size→d.size<1152921504606846976→
  ∃x y z,Loop (Dj CC) ((i:Int),(j:Int),eA d)=some (x,y,z,eA (reverseLoop i j d)):=by
 intro n
 induction n with
 | zero=>
  intro i j d hn hj hs
  rw[reverseLoop,ah (by omega)]
  exact ⟨(i:Int),(j:Int),false,aG (by
   simp (disch:=omega) only[Dj,zB,un,ke,cond_false])⟩
 | succ n ih=>
  intro i j d hn hj hs
  rw[reverseLoop]
  by_cases h:i<j
  ·rw[ag h]
   obtain ⟨x,y,z,h2⟩:=ih (i+1) (j-1) (swp d i j) (by omega) (by rw[size_swp];omega) (by rw[size_swp];omega)
   refine ⟨x,y,z,(br ?_).trans h2⟩
   simp (disch:=omega) only[Dj,zB,un,ar,bK,dH,ag,ah,wrap64,bW,di,Int.toNat_natCast,Option.bind_some,dg,dm,XE.aH,XE.aN,XE.aK,XE.re,dh,dM,dF,iN,V.aD,V.toInt_int,cond_true,cond_false,eS]
   rfl
  ·rw[ah h]
   exact ⟨(i:Int),(j:Int),false,aG (by
    simp (disch:=omega) only[Dj,zB,un,ke,cond_false])⟩
theorem P2 {a b:Nat} {d:Array XE} (dq:a<b) (hb:b≤d.size) (hs:d.size<1152921504606846976):
  CC Ib [.int .i64 (a:Int),.int .i64 (b:Int),.list ab (eA d)]=some [.list ab (eA (reverseRange d a b))]:=by
 refine ajt ?_
 unfold Yy
 obtain ⟨x,y,z,h⟩:=P1 _ a (b-1) d (bN _) (by omega) hs
 simp (disch:=omega) only[eS,wrap64]
 rw[h]
 rfl
end Go.AM.SX
set_option maxRecDepth 100000
namespace Go.AM
open Go.Proofs
noncomputable abbrev rn:Code:=bU Tryz.prog (az.aT 134)
noncomputable def Dq (C:af) (a j:Int) (ae:List V) (i:Int) {β:Type} (kn:Int→Option β) (kr:(Int × Bool)→Option β):Option β:=
 bif decide ((i:Int)≤j) then
  bif (decide (0≤i))&&(decide (i<(ae.length:Int))) then
  (ae[(i:Int).toNat]?).bind fun x5=>
  bif (decide (0≤a))&&(decide (a<(ae.length:Int))) then
   (ae[(a:Int).toNat]?).bind fun x6=>
   (C bu [.int .i64 ((x5.cell 0).toInt),.int .i64 ((x5.cell 1).toInt),.list ab ((x5.cell 2).toList),.int .i64 ((x6.cell 0).toInt),.int .i64 ((x6.cell 1).toInt),.list ab ((x6.cell 2).toList)]).bind fun r7=>
   bif decide ((((V.nth r7 0).toInt):Int)<0) then
   kn (IntKind.wrap .i64 (i+1))
   else
   kr (i,decide ((((V.nth r7 0).toInt):Int)<0))
  else none
  else none
 else
  kr (i,false)
noncomputable def Dr (C:af) (a j:Int) (ae:List V):(Int)→Option ((Int) ⊕ (Int × Bool)):=fun i=>Dq C a j ae i (fun y=>some (.inl y)) (fun r=>some (.inr r))
noncomputable def zC (C:af) (a i:Int) (ae:List V) (j:Int) {β:Type} (kn:Int→Option β) (kr:(Int × Bool)→Option β):Option β:=
 bif decide ((i:Int)≤j) then
  bif (decide (0≤j))&&(decide (j<(ae.length:Int))) then
  (ae[(j:Int).toNat]?).bind fun fB=>
  bif (decide (0≤a))&&(decide (a<(ae.length:Int))) then
   (ae[(a:Int).toNat]?).bind fun fC=>
   (C bu [.int .i64 ((fB.cell 0).toInt),.int .i64 ((fB.cell 1).toInt),.list ab ((fB.cell 2).toList),.int .i64 ((fC.cell 0).toInt),.int .i64 ((fC.cell 1).toInt),.list ab ((fC.cell 2).toList)]).bind fun fP=>
   bif !(decide ((((V.nth fP 0).toInt):Int)<0)) then
   kn (IntKind.wrap .i64 (j-1))
   else
   kr (j,!(decide ((((V.nth fP 0).toInt):Int)<0)))
  else none
  else none
 else
  kr (j,false)
noncomputable def zD (C:af) (a i:Int) (ae:List V):(Int)→Option ((Int) ⊕ (Int × Bool)):=fun j=>zC C a i ae j (fun y=>some (.inl y)) (fun r=>some (.inr r))
noncomputable def Ds (C:af) (a j:Int) (ae:List V) (i:Int) {β:Type} (kn:Int→Option β) (kr:(Int × Bool)→Option β):Option β:=
 bif decide ((i:Int)≤j) then
  bif (decide (0≤i))&&(decide (i<(ae.length:Int))) then
  (ae[(i:Int).toNat]?).bind fun ez=>
  bif (decide (0≤a))&&(decide (a<(ae.length:Int))) then
   (ae[(a:Int).toNat]?).bind fun jN=>
   (C bu [.int .i64 ((ez.cell 0).toInt),.int .i64 ((ez.cell 1).toInt),.list ab ((ez.cell 2).toList),.int .i64 ((jN.cell 0).toInt),.int .i64 ((jN.cell 1).toInt),.list ab ((jN.cell 2).toList)]).bind fun uh=>
   bif decide ((((V.nth uh 0).toInt):Int)<0) then
   kn (IntKind.wrap .i64 (i+1))
   else
   kr (i,decide ((((V.nth uh 0).toInt):Int)<0))
  else none
  else none
 else
  kr (i,false)
noncomputable def Dt (C:af) (a j:Int) (ae:List V):(Int)→Option ((Int) ⊕ (Int × Bool)):=fun i=>Ds C a j ae i (fun y=>some (.inl y)) (fun r=>some (.inr r))
noncomputable def zF (C:af) (a i:Int) (ae:List V) (j:Int) {β:Type} (kn:Int→Option β) (kr:(Int × Bool)→Option β):Option β:=
 bif decide ((i:Int)≤j) then
  bif (decide (0≤j))&&(decide (j<(ae.length:Int))) then
  (ae[(j:Int).toNat]?).bind fun lV=>
  bif (decide (0≤a))&&(decide (a<(ae.length:Int))) then
   (ae[(a:Int).toNat]?).bind fun lW=>
   (C bu [.int .i64 ((lV.cell 0).toInt),.int .i64 ((lV.cell 1).toInt),.list ab ((lV.cell 2).toList),.int .i64 ((lW.cell 0).toInt),.int .i64 ((lW.cell 1).toInt),.list ab ((lW.cell 2).toList)]).bind fun sH=>
   bif !(decide ((((V.nth sH 0).toInt):Int)<0)) then
   kn (IntKind.wrap .i64 (j-1))
   else
   kr (j,!(decide ((((V.nth sH 0).toInt):Int)<0)))
  else none
  else none
 else
  kr (j,false)
noncomputable def zG (C:af) (a i:Int) (ae:List V):(Int)→Option ((Int) ⊕ (Int × Bool)):=fun j=>zF C a i ae j (fun y=>some (.inl y)) (fun r=>some (.inr r))
noncomputable def Du (C:af) (a i j:Int) (ae:List V) {β:Type} (kn:(Int × Int × (List V))→Option β) (kr:(Int × Int × Bool × (List V))→Option β):Option β:=
 (Loop (Dt C a j ae) i).bind (un fun (fD:Int) (Pc:Bool)=>
  (Loop (zG C a fD ae) j).bind (un fun (iA:Int) (Pd:Bool)=>
   bif decide ((fD:Int)>iA) then
    kr (fD,iA,decide ((fD:Int)>iA),ae)
   else
    bif (decide (0≤iA))&&(decide (iA<(ae.length:Int))) then
    (ae[(iA:Int).toNat]?).bind fun jO=>
    bif (decide (0≤fD))&&(decide (fD<(ae.length:Int))) then
     (ae[(fD:Int).toNat]?).bind fun p7=>
     bif (decide (0≤fD))&&(decide (fD<(ae.length:Int))) then
     (ae[(fD:Int).toNat]?).bind fun x35=>
     bif (decide (0≤iA))&&(decide (iA<((ae.set ((fD:Int).toNat) (.agg [.int .i64 ((jO.cell 0).toInt),.int .i64 ((jO.cell 1).toInt),.list ab ((jO.cell 2).toList)])).length:Int))) then
      ((ae.set ((fD:Int).toNat) (.agg [.int .i64 ((jO.cell 0).toInt),.int .i64 ((jO.cell 1).toInt),.list ab ((jO.cell 2).toList)]))[(iA:Int).toNat]?).bind fun x36=>
      kn (IntKind.wrap .i64 (fD+1),IntKind.wrap .i64 (iA-1),(ae.set ((fD:Int).toNat) (.agg [.int .i64 ((jO.cell 0).toInt),.int .i64 ((jO.cell 1).toInt),.list ab ((jO.cell 2).toList)])).set ((iA:Int).toNat) (.agg [.int .i64 ((p7.cell 0).toInt),.int .i64 ((p7.cell 1).toInt),.list ab ((p7.cell 2).toList)]))
     else none
     else none
    else none
    else none))
noncomputable def zH (C:af) (a:Int):(Int × Int × (List V))→Option ((Int × Int × (List V)) ⊕ (Int × Int × Bool × (List V))):=un fun i=>un fun j ae=>Du C a i j ae (fun y=>some (.inl y)) (fun r=>some (.inr r))
noncomputable def Yz (C:af):cj:=fun β n ds k=>
 bif Nat.beq n 49 then bt OK [false,true,false,false] [[1,0,3,0,4]] (@Dq C) ds k else
 bif Nat.beq n 81 then bt OL [false,false,true,false] [[1,2,0,0,4]] (@zC C) ds k else
 bif Nat.beq n 209 then bt OM [false,true,false,false] [[1,0,3,0,4]] (@Ds C) ds k else
 bif Nat.beq n 241 then bt ON [false,false,true,false] [[1,2,0,0,4]] (@zF C) ds k else
 bif Nat.beq n 210 then bt OO [false,true,true,true] [[1,0,0,0,0]] (@Du C) ds k else
 none
abbrev Dv (C:af) (b:cg):Prop:=ch Tryz.prog az C (Yz C) 134 (cv Tryz.prog (az.aT 134)) (az.sin 134).bf.length b
theorem aju (C:af):Dv C (.loop (aq [1,1,1,0,0,0] rn)):=
 bw OK [false,true,false,false] [[1,0,3,0,4]] (@Dq C) (by kernel_rfl) (aM (bs:=[]) (by kernel_rfl) aw) (fun ds=>by kernel_rfl) (fun i x=>by kernel_rfl) (fun i x β k=>by kernel_rfl) (fun β ds k=>by kernel_rfl)
theorem ajv (C:af):Dv C (.loop (aq [1,1,1,1,0,0,0] rn)):=
 bw OL [false,false,true,false] [[1,2,0,0,4]] (@zC C) (by kernel_rfl) (aM (bs:=[]) (by kernel_rfl) aw) (fun ds=>by kernel_rfl) (fun i x=>by kernel_rfl) (fun i x β k=>by kernel_rfl) (fun β ds k=>by kernel_rfl)
theorem ajw (C:af):Dv C (.loop (aq [1,1,1,1,1,1,1,1,1,0,0,0,0,0,0,0] rn)):=
 bw OM [false,true,false,false] [[1,0,3,0,4]] (@Ds C) (by kernel_rfl) (aM (bs:=[]) (by kernel_rfl) aw) (fun ds=>by kernel_rfl) (fun i x=>by kernel_rfl) (fun i x β k=>by kernel_rfl) (fun β ds k=>by kernel_rfl)
theorem ajx (C:af):Dv C (.loop (aq [1,1,1,1,1,1,1,1,1,0,0,0,0,1,0,0,0] rn)):=
 bw ON [false,false,true,false] [[1,2,0,0,4]] (@zF C) (by kernel_rfl) (aM (bs:=[]) (by kernel_rfl) aw) (fun ds=>by kernel_rfl) (fun i x=>by kernel_rfl) (fun i x β k=>by kernel_rfl) (fun β ds k=>by kernel_rfl)
theorem ajy (C:af):Dv C (.loop (aq [1,1,1,1,1,1,1,1,1,0,0,0] rn)):=
 bw OO [false,true,true,true] [[1,0,0,0,0]] (@Du C) (by kernel_rfl) (aM (bs:=[.loop (aq [1,1,1,1,1,1,1,1,1,0,0,0,0,0,0,0] rn),.loop (aq [1,1,1,1,1,1,1,1,1,0,0,0,0,1,0,0,0] rn)]) (by kernel_rfl) (aZ (ajw C) (aZ (ajx C) aw))) (fun ds=>by kernel_rfl) (fun i x=>by kernel_rfl) (fun i x β k=>by kernel_rfl) (fun β ds k=>by kernel_rfl)
noncomputable def YA (C:af) (a b' pivot:Int) (ae:List V):Option (List V):=
 bif (decide (0≤pivot))&&(decide (pivot<(ae.length:Int))) then
  (ae[(pivot:Int).toNat]?).bind fun x1=>
  bif (decide (0≤a))&&(decide (a<(ae.length:Int))) then
  (ae[(a:Int).toNat]?).bind fun x2=>
  bif (decide (0≤a))&&(decide (a<(ae.length:Int))) then
   (ae[(a:Int).toNat]?).bind fun x3=>
   bif (decide (0≤pivot))&&(decide (pivot<((ae.set ((a:Int).toNat) (.agg [.int .i64 ((x1.cell 0).toInt),.int .i64 ((x1.cell 1).toInt),.list ab ((x1.cell 2).toList)])).length:Int))) then
   ((ae.set ((a:Int).toNat) (.agg [.int .i64 ((x1.cell 0).toInt),.int .i64 ((x1.cell 1).toInt),.list ab ((x1.cell 2).toList)]))[(pivot:Int).toNat]?).bind fun x4=>
   (Loop (Dr C a (IntKind.wrap .i64 (b'-1)) ((ae.set ((a:Int).toNat) (.agg [.int .i64 ((x1.cell 0).toInt),.int .i64 ((x1.cell 1).toInt),.list ab ((x1.cell 2).toList)])).set ((pivot:Int).toNat) (.agg [.int .i64 ((x2.cell 0).toInt),.int .i64 ((x2.cell 1).toInt),.list ab ((x2.cell 2).toList)]))) (IntKind.wrap .i64 (a+1))).bind (un fun (cM:Int) (oW:Bool)=>
    (Loop (zD C a cM ((ae.set ((a:Int).toNat) (.agg [.int .i64 ((x1.cell 0).toInt),.int .i64 ((x1.cell 1).toInt),.list ab ((x1.cell 2).toList)])).set ((pivot:Int).toNat) (.agg [.int .i64 ((x2.cell 0).toInt),.int .i64 ((x2.cell 1).toInt),.list ab ((x2.cell 2).toList)]))) (IntKind.wrap .i64 (b'-1))).bind (un fun (cm:Int) (v5:Bool)=>
     bif decide ((cM:Int)>cm) then
      bif (decide (0≤a))&&(decide (a<(((ae.set ((a:Int).toNat) (.agg [.int .i64 ((x1.cell 0).toInt),.int .i64 ((x1.cell 1).toInt),.list ab ((x1.cell 2).toList)])).set ((pivot:Int).toNat) (.agg [.int .i64 ((x2.cell 0).toInt),.int .i64 ((x2.cell 1).toInt),.list ab ((x2.cell 2).toList)])).length:Int))) then
      (((ae.set ((a:Int).toNat) (.agg [.int .i64 ((x1.cell 0).toInt),.int .i64 ((x1.cell 1).toInt),.list ab ((x1.cell 2).toList)])).set ((pivot:Int).toNat) (.agg [.int .i64 ((x2.cell 0).toInt),.int .i64 ((x2.cell 1).toInt),.list ab ((x2.cell 2).toList)]))[(a:Int).toNat]?).bind fun db=>
      bif (decide (0≤cm))&&(decide (cm<(((ae.set ((a:Int).toNat) (.agg [.int .i64 ((x1.cell 0).toInt),.int .i64 ((x1.cell 1).toInt),.list ab ((x1.cell 2).toList)])).set ((pivot:Int).toNat) (.agg [.int .i64 ((x2.cell 0).toInt),.int .i64 ((x2.cell 1).toInt),.list ab ((x2.cell 2).toList)])).length:Int))) then
       (((ae.set ((a:Int).toNat) (.agg [.int .i64 ((x1.cell 0).toInt),.int .i64 ((x1.cell 1).toInt),.list ab ((x1.cell 2).toList)])).set ((pivot:Int).toNat) (.agg [.int .i64 ((x2.cell 0).toInt),.int .i64 ((x2.cell 1).toInt),.list ab ((x2.cell 2).toList)]))[(cm:Int).toNat]?).bind fun da=>
       bif (decide (0≤cm))&&(decide (cm<(((ae.set ((a:Int).toNat) (.agg [.int .i64 ((x1.cell 0).toInt),.int .i64 ((x1.cell 1).toInt),.list ab ((x1.cell 2).toList)])).set ((pivot:Int).toNat) (.agg [.int .i64 ((x2.cell 0).toInt),.int .i64 ((x2.cell 1).toInt),.list ab ((x2.cell 2).toList)])).length:Int))) then
       (((ae.set ((a:Int).toNat) (.agg [.int .i64 ((x1.cell 0).toInt),.int .i64 ((x1.cell 1).toInt),.list ab ((x1.cell 2).toList)])).set ((pivot:Int).toNat) (.agg [.int .i64 ((x2.cell 0).toInt),.int .i64 ((x2.cell 1).toInt),.list ab ((x2.cell 2).toList)]))[(cm:Int).toNat]?).bind fun p5=>
       bif (decide (0≤a))&&(decide (a<((((ae.set ((a:Int).toNat) (.agg [.int .i64 ((x1.cell 0).toInt),.int .i64 ((x1.cell 1).toInt),.list ab ((x1.cell 2).toList)])).set ((pivot:Int).toNat) (.agg [.int .i64 ((x2.cell 0).toInt),.int .i64 ((x2.cell 1).toInt),.list ab ((x2.cell 2).toList)])).set ((cm:Int).toNat) (.agg [.int .i64 ((db.cell 0).toInt),.int .i64 ((db.cell 1).toInt),.list ab ((db.cell 2).toList)])).length:Int))) then
        ((((ae.set ((a:Int).toNat) (.agg [.int .i64 ((x1.cell 0).toInt),.int .i64 ((x1.cell 1).toInt),.list ab ((x1.cell 2).toList)])).set ((pivot:Int).toNat) (.agg [.int .i64 ((x2.cell 0).toInt),.int .i64 ((x2.cell 1).toInt),.list ab ((x2.cell 2).toList)])).set ((cm:Int).toNat) (.agg [.int .i64 ((db.cell 0).toInt),.int .i64 ((db.cell 1).toInt),.list ab ((db.cell 2).toList)]))[(a:Int).toNat]?).bind fun kJ=>
        some [.int .i64 cm,.bool true,.list ab ((((ae.set ((a:Int).toNat) (.agg [.int .i64 ((x1.cell 0).toInt),.int .i64 ((x1.cell 1).toInt),.list ab ((x1.cell 2).toList)])).set ((pivot:Int).toNat) (.agg [.int .i64 ((x2.cell 0).toInt),.int .i64 ((x2.cell 1).toInt),.list ab ((x2.cell 2).toList)])).set ((cm:Int).toNat) (.agg [.int .i64 ((db.cell 0).toInt),.int .i64 ((db.cell 1).toInt),.list ab ((db.cell 2).toList)])).set ((a:Int).toNat) (.agg [.int .i64 ((da.cell 0).toInt),.int .i64 ((da.cell 1).toInt),.list ab ((da.cell 2).toList)]))]
       else none
       else none
      else none
      else none
     else
      bif (decide (0≤cm))&&(decide (cm<(((ae.set ((a:Int).toNat) (.agg [.int .i64 ((x1.cell 0).toInt),.int .i64 ((x1.cell 1).toInt),.list ab ((x1.cell 2).toList)])).set ((pivot:Int).toNat) (.agg [.int .i64 ((x2.cell 0).toInt),.int .i64 ((x2.cell 1).toInt),.list ab ((x2.cell 2).toList)])).length:Int))) then
      (((ae.set ((a:Int).toNat) (.agg [.int .i64 ((x1.cell 0).toInt),.int .i64 ((x1.cell 1).toInt),.list ab ((x1.cell 2).toList)])).set ((pivot:Int).toNat) (.agg [.int .i64 ((x2.cell 0).toInt),.int .i64 ((x2.cell 1).toInt),.list ab ((x2.cell 2).toList)]))[(cm:Int).toNat]?).bind fun gM=>
      bif (decide (0≤cM))&&(decide (cM<(((ae.set ((a:Int).toNat) (.agg [.int .i64 ((x1.cell 0).toInt),.int .i64 ((x1.cell 1).toInt),.list ab ((x1.cell 2).toList)])).set ((pivot:Int).toNat) (.agg [.int .i64 ((x2.cell 0).toInt),.int .i64 ((x2.cell 1).toInt),.list ab ((x2.cell 2).toList)])).length:Int))) then
       (((ae.set ((a:Int).toNat) (.agg [.int .i64 ((x1.cell 0).toInt),.int .i64 ((x1.cell 1).toInt),.list ab ((x1.cell 2).toList)])).set ((pivot:Int).toNat) (.agg [.int .i64 ((x2.cell 0).toInt),.int .i64 ((x2.cell 1).toInt),.list ab ((x2.cell 2).toList)]))[(cM:Int).toNat]?).bind fun lX=>
       bif (decide (0≤cM))&&(decide (cM<(((ae.set ((a:Int).toNat) (.agg [.int .i64 ((x1.cell 0).toInt),.int .i64 ((x1.cell 1).toInt),.list ab ((x1.cell 2).toList)])).set ((pivot:Int).toNat) (.agg [.int .i64 ((x2.cell 0).toInt),.int .i64 ((x2.cell 1).toInt),.list ab ((x2.cell 2).toList)])).length:Int))) then
       (((ae.set ((a:Int).toNat) (.agg [.int .i64 ((x1.cell 0).toInt),.int .i64 ((x1.cell 1).toInt),.list ab ((x1.cell 2).toList)])).set ((pivot:Int).toNat) (.agg [.int .i64 ((x2.cell 0).toInt),.int .i64 ((x2.cell 1).toInt),.list ab ((x2.cell 2).toList)]))[(cM:Int).toNat]?).bind fun sI=>
       bif (decide (0≤cm))&&(decide (cm<((((ae.set ((a:Int).toNat) (.agg [.int .i64 ((x1.cell 0).toInt),.int .i64 ((x1.cell 1).toInt),.list ab ((x1.cell 2).toList)])).set ((pivot:Int).toNat) (.agg [.int .i64 ((x2.cell 0).toInt),.int .i64 ((x2.cell 1).toInt),.list ab ((x2.cell 2).toList)])).set ((cM:Int).toNat) (.agg [.int .i64 ((gM.cell 0).toInt),.int .i64 ((gM.cell 1).toInt),.list ab ((gM.cell 2).toList)])).length:Int))) then
        ((((ae.set ((a:Int).toNat) (.agg [.int .i64 ((x1.cell 0).toInt),.int .i64 ((x1.cell 1).toInt),.list ab ((x1.cell 2).toList)])).set ((pivot:Int).toNat) (.agg [.int .i64 ((x2.cell 0).toInt),.int .i64 ((x2.cell 1).toInt),.list ab ((x2.cell 2).toList)])).set ((cM:Int).toNat) (.agg [.int .i64 ((gM.cell 0).toInt),.int .i64 ((gM.cell 1).toInt),.list ab ((gM.cell 2).toList)]))[(cm:Int).toNat]?).bind fun x22=>
        (Loop (zH C a) (IntKind.wrap .i64 (cM+1),IntKind.wrap .i64 (cm-1),(((ae.set ((a:Int).toNat) (.agg [.int .i64 ((x1.cell 0).toInt),.int .i64 ((x1.cell 1).toInt),.list ab ((x1.cell 2).toList)])).set ((pivot:Int).toNat) (.agg [.int .i64 ((x2.cell 0).toInt),.int .i64 ((x2.cell 1).toInt),.list ab ((x2.cell 2).toList)])).set ((cM:Int).toNat) (.agg [.int .i64 ((gM.cell 0).toInt),.int .i64 ((gM.cell 1).toInt),.list ab ((gM.cell 2).toList)])).set ((cm:Int).toNat) (.agg [.int .i64 ((lX.cell 0).toInt),.int .i64 ((lX.cell 1).toInt),.list ab ((lX.cell 2).toList)]))).bind (un fun (Xi:Int)=>un fun (iZ:Int)=>un fun (Pe:Bool) (eB:List V)=>
         bif (decide (0≤a))&&(decide (a<(eB.length:Int))) then
         (eB[(a:Int).toNat]?).bind fun gb=>
         bif (decide (0≤iZ))&&(decide (iZ<(eB.length:Int))) then
          (eB[(iZ:Int).toNat]?).bind fun lY=>
          bif (decide (0≤iZ))&&(decide (iZ<(eB.length:Int))) then
          (eB[(iZ:Int).toNat]?).bind fun x43=>
          bif (decide (0≤a))&&(decide (a<((eB.set ((iZ:Int).toNat) (.agg [.int .i64 ((gb.cell 0).toInt),.int .i64 ((gb.cell 1).toInt),.list ab ((gb.cell 2).toList)])).length:Int))) then
           ((eB.set ((iZ:Int).toNat) (.agg [.int .i64 ((gb.cell 0).toInt),.int .i64 ((gb.cell 1).toInt),.list ab ((gb.cell 2).toList)]))[(a:Int).toNat]?).bind fun x44=>
           some [.int .i64 iZ,.bool false,.list ab ((eB.set ((iZ:Int).toNat) (.agg [.int .i64 ((gb.cell 0).toInt),.int .i64 ((gb.cell 1).toInt),.list ab ((gb.cell 2).toList)])).set ((a:Int).toNat) (.agg [.int .i64 ((lY.cell 0).toInt),.int .i64 ((lY.cell 1).toInt),.list ab ((lY.cell 2).toList)]))]
          else none
          else none
         else none
         else none)
       else none
       else none
      else none
      else none))
   else none
  else none
  else none
 else none
theorem ajz {a b' pivot:Int} {ae:List V} {r:Option (List V)} (h:YA CC a b' pivot ae=r):CC oT [.int .i64 a,.int .i64 b',.int .i64 pivot,.list ab ae]=r:=
 bn (key:=134) (L:=Yz CC) (bs:=[.loop (aq [1,1,1,0,0,0] rn),.loop (aq [1,1,1,1,0,0,0] rn),.loop (aq [1,1,1,1,1,1,1,1,1,0,0,0] rn)]) (by kernel_rfl) (aZ (aju CC) (aZ (ajv CC) (aZ (ajy CC) aw))) (bm (by kernel_rfl) h)
noncomputable abbrev zI:Code:=bU Tryz.prog (az.aT 133)
noncomputable def Dw (C:af) (a j:Int) (ae:List V) (i:Int) {β:Type} (kn:Int→Option β) (kr:(Int × Bool)→Option β):Option β:=
 bif decide ((i:Int)≤j) then
  bif (decide (0≤a))&&(decide (a<(ae.length:Int))) then
  (ae[(a:Int).toNat]?).bind fun x5=>
  bif (decide (0≤i))&&(decide (i<(ae.length:Int))) then
   (ae[(i:Int).toNat]?).bind fun x6=>
   (C bu [.int .i64 ((x5.cell 0).toInt),.int .i64 ((x5.cell 1).toInt),.list ab ((x5.cell 2).toList),.int .i64 ((x6.cell 0).toInt),.int .i64 ((x6.cell 1).toInt),.list ab ((x6.cell 2).toList)]).bind fun r7=>
   bif !(decide ((((V.nth r7 0).toInt):Int)<0)) then
   kn (IntKind.wrap .i64 (i+1))
   else
   kr (i,!(decide ((((V.nth r7 0).toInt):Int)<0)))
  else none
  else none
 else
  kr (i,false)
noncomputable def Dx (C:af) (a j:Int) (ae:List V):(Int)→Option ((Int) ⊕ (Int × Bool)):=fun i=>Dw C a j ae i (fun y=>some (.inl y)) (fun r=>some (.inr r))
noncomputable def zJ (C:af) (a i:Int) (ae:List V) (j:Int) {β:Type} (kn:Int→Option β) (kr:(Int × Bool)→Option β):Option β:=
 bif decide ((i:Int)≤j) then
  bif (decide (0≤a))&&(decide (a<(ae.length:Int))) then
  (ae[(a:Int).toNat]?).bind fun fB=>
  bif (decide (0≤j))&&(decide (j<(ae.length:Int))) then
   (ae[(j:Int).toNat]?).bind fun fC=>
   (C bu [.int .i64 ((fB.cell 0).toInt),.int .i64 ((fB.cell 1).toInt),.list ab ((fB.cell 2).toList),.int .i64 ((fC.cell 0).toInt),.int .i64 ((fC.cell 1).toInt),.list ab ((fC.cell 2).toList)]).bind fun fP=>
   bif decide ((((V.nth fP 0).toInt):Int)<0) then
   kn (IntKind.wrap .i64 (j-1))
   else
   kr (j,decide ((((V.nth fP 0).toInt):Int)<0))
  else none
  else none
 else
  kr (j,false)
noncomputable def zK (C:af) (a i:Int) (ae:List V):(Int)→Option ((Int) ⊕ (Int × Bool)):=fun j=>zJ C a i ae j (fun y=>some (.inl y)) (fun r=>some (.inr r))
noncomputable def Dy (C:af) (a i j:Int) (ae:List V) {β:Type} (kn:(Int × Int × (List V))→Option β) (kr:(Int × Int × Bool × (List V))→Option β):Option β:=
 (Loop (Dx C a j ae) i).bind (un fun (cM:Int) (oW:Bool)=>
  (Loop (zK C a cM ae) j).bind (un fun (cm:Int) (v5:Bool)=>
   bif decide ((cM:Int)>cm) then
    kr (cM,cm,decide ((cM:Int)>cm),ae)
   else
    bif (decide (0≤cm))&&(decide (cm<(ae.length:Int))) then
    (ae[(cm:Int).toNat]?).bind fun db=>
    bif (decide (0≤cM))&&(decide (cM<(ae.length:Int))) then
     (ae[(cM:Int).toNat]?).bind fun da=>
     bif (decide (0≤cM))&&(decide (cM<(ae.length:Int))) then
     (ae[(cM:Int).toNat]?).bind fun p5=>
     bif (decide (0≤cm))&&(decide (cm<((ae.set ((cM:Int).toNat) (.agg [.int .i64 ((db.cell 0).toInt),.int .i64 ((db.cell 1).toInt),.list ab ((db.cell 2).toList)])).length:Int))) then
      ((ae.set ((cM:Int).toNat) (.agg [.int .i64 ((db.cell 0).toInt),.int .i64 ((db.cell 1).toInt),.list ab ((db.cell 2).toList)]))[(cm:Int).toNat]?).bind fun kJ=>
      kn (IntKind.wrap .i64 (cM+1),IntKind.wrap .i64 (cm-1),(ae.set ((cM:Int).toNat) (.agg [.int .i64 ((db.cell 0).toInt),.int .i64 ((db.cell 1).toInt),.list ab ((db.cell 2).toList)])).set ((cm:Int).toNat) (.agg [.int .i64 ((da.cell 0).toInt),.int .i64 ((da.cell 1).toInt),.list ab ((da.cell 2).toList)]))
     else none
     else none
    else none
    else none))
noncomputable def zL (C:af) (a:Int):(Int × Int × (List V))→Option ((Int × Int × (List V)) ⊕ (Int × Int × Bool × (List V))):=un fun i=>un fun j ae=>Dy C a i j ae (fun y=>some (.inl y)) (fun r=>some (.inr r))
noncomputable def YB (C:af):cj:=fun β n ds k=>
 bif Nat.beq n 49 then bt OH [false,true,false,false] [[1,0,3,0,4]] (@Dw C) ds k else
 bif Nat.beq n 81 then bt OI [false,false,true,false] [[1,2,0,0,4]] (@zJ C) ds k else
 bif Nat.beq n 50 then bt OJ [false,true,true,true] [[1,0,0,0,0]] (@Dy C) ds k else
 none
abbrev P4 (C:af) (b:cg):Prop:=ch Tryz.prog az C (YB C) 133 (cv Tryz.prog (az.aT 133)) (az.sin 133).bf.length b
theorem ajA (C:af):P4 C (.loop (aq [1,1,1,0,0,0,0,0,0,0] zI)):=
 bw OH [false,true,false,false] [[1,0,3,0,4]] (@Dw C) (by kernel_rfl) (aM (bs:=[]) (by kernel_rfl) aw) (fun ds=>by kernel_rfl) (fun i x=>by kernel_rfl) (fun i x β k=>by kernel_rfl) (fun β ds k=>by kernel_rfl)
theorem ajB (C:af):P4 C (.loop (aq [1,1,1,0,0,0,0,1,0,0,0] zI)):=
 bw OI [false,false,true,false] [[1,2,0,0,4]] (@zJ C) (by kernel_rfl) (aM (bs:=[]) (by kernel_rfl) aw) (fun ds=>by kernel_rfl) (fun i x=>by kernel_rfl) (fun i x β k=>by kernel_rfl) (fun β ds k=>by kernel_rfl)
theorem ajC (C:af):P4 C (.loop (aq [1,1,1,0,0,0] zI)):=
 bw OJ [false,true,true,true] [[1,0,0,0,0]] (@Dy C) (by kernel_rfl) (aM (bs:=[.loop (aq [1,1,1,0,0,0,0,0,0,0] zI),.loop (aq [1,1,1,0,0,0,0,1,0,0,0] zI)]) (by kernel_rfl) (aZ (ajA C) (aZ (ajB C) aw))) (fun ds=>by kernel_rfl) (fun i x=>by kernel_rfl) (fun i x β k=>by kernel_rfl) (fun β ds k=>by kernel_rfl)
noncomputable def YC (C:af) (a b' pivot:Int) (ae:List V):Option (List V):=
 bif (decide (0≤pivot))&&(decide (pivot<(ae.length:Int))) then
  (ae[(pivot:Int).toNat]?).bind fun x1=>
  bif (decide (0≤a))&&(decide (a<(ae.length:Int))) then
  (ae[(a:Int).toNat]?).bind fun x2=>
  bif (decide (0≤a))&&(decide (a<(ae.length:Int))) then
   (ae[(a:Int).toNat]?).bind fun x3=>
   bif (decide (0≤pivot))&&(decide (pivot<((ae.set ((a:Int).toNat) (.agg [.int .i64 ((x1.cell 0).toInt),.int .i64 ((x1.cell 1).toInt),.list ab ((x1.cell 2).toList)])).length:Int))) then
   ((ae.set ((a:Int).toNat) (.agg [.int .i64 ((x1.cell 0).toInt),.int .i64 ((x1.cell 1).toInt),.list ab ((x1.cell 2).toList)]))[(pivot:Int).toNat]?).bind fun x4=>
   (Loop (zL C a) (IntKind.wrap .i64 (a+1),IntKind.wrap .i64 (b'-1),(ae.set ((a:Int).toNat) (.agg [.int .i64 ((x1.cell 0).toInt),.int .i64 ((x1.cell 1).toInt),.list ab ((x1.cell 2).toList)])).set ((pivot:Int).toNat) (.agg [.int .i64 ((x2.cell 0).toInt),.int .i64 ((x2.cell 1).toInt),.list ab ((x2.cell 2).toList)]))).bind (un fun (P5:Int)=>un fun (ajD:Int)=>un fun (CS:Bool) (P6:List V)=>
    some [.int .i64 P5,.list ab P6])
   else none
  else none
  else none
 else none
theorem ajE {a b' pivot:Int} {ae:List V} {r:Option (List V)} (h:YC CC a b' pivot ae=r):CC vV [.int .i64 a,.int .i64 b',.int .i64 pivot,.list ab ae]=r:=
 bn (key:=133) (L:=YB CC) (bs:=[.loop (aq [1,1,1,0,0,0] zI)]) (by kernel_rfl) (aZ (ajC CC) aw) (bm (by kernel_rfl) h)
noncomputable abbrev o7:Code:=bU Tryz.prog (az.aT 132)
noncomputable def Dz (C:af) (a b' j:Int) (ae:List V) (i:Int) {β:Type} (kn:Int→Option β) (kr:(Int × Bool)→Option β):Option β:=
 bif decide ((i:Int)<b') then
  bif (decide (0≤i))&&(decide (i<(ae.length:Int))) then
  (ae[(i:Int).toNat]?).bind fun x1=>
  bif (decide (0≤(IntKind.wrap .i64 (i-1))))&&(decide ((IntKind.wrap .i64 (i-1))<(ae.length:Int))) then
   (ae[(IntKind.wrap .i64 (i-1):Int).toNat]?).bind fun x2=>
   (C bu [.int .i64 ((x1.cell 0).toInt),.int .i64 ((x1.cell 1).toInt),.list ab ((x1.cell 2).toList),.int .i64 ((x2.cell 0).toInt),.int .i64 ((x2.cell 1).toInt),.list ab ((x2.cell 2).toList)]).bind fun r3=>
   bif !(decide ((((V.nth r3 0).toInt):Int)<0)) then
   kn (IntKind.wrap .i64 (i+1))
   else
   kr (i,!(decide ((((V.nth r3 0).toInt):Int)<0)))
  else none
  else none
 else
  kr (i,false)
noncomputable def DA (C:af) (a b' j:Int) (ae:List V):(Int)→Option ((Int) ⊕ (Int × Bool)):=fun i=>Dz C a b' j ae i (fun y=>some (.inl y)) (fun r=>some (.inr r))
noncomputable def DB (C:af) (a b' i j j':Int) (ae:List V) {β:Type} (kn:(Int × (List V))→Option β) (kr:(Int × (List V))→Option β):Option β:=
 bif decide ((j':Int)≥1) then
  bif (decide (0≤j'))&&(decide (j'<(ae.length:Int))) then
  (ae[(j':Int).toNat]?).bind fun fB=>
  bif (decide (0≤(IntKind.wrap .i64 (j'-1))))&&(decide ((IntKind.wrap .i64 (j'-1))<(ae.length:Int))) then
   (ae[(IntKind.wrap .i64 (j'-1):Int).toNat]?).bind fun fC=>
   (C bu [.int .i64 ((fB.cell 0).toInt),.int .i64 ((fB.cell 1).toInt),.list ab ((fB.cell 2).toList),.int .i64 ((fC.cell 0).toInt),.int .i64 ((fC.cell 1).toInt),.list ab ((fC.cell 2).toList)]).bind fun fP=>
   bif !(decide ((((V.nth fP 0).toInt):Int)<0)) then
   kr (j',ae)
   else
   bif (decide (0≤(IntKind.wrap .i64 (j'-1))))&&(decide ((IntKind.wrap .i64 (j'-1))<(ae.length:Int))) then
    (ae[(IntKind.wrap .i64 (j'-1):Int).toNat]?).bind fun dS=>
    bif (decide (0≤j'))&&(decide (j'<(ae.length:Int))) then
    (ae[(j':Int).toNat]?).bind fun iz=>
    bif (decide (0≤j'))&&(decide (j'<(ae.length:Int))) then
     (ae[(j':Int).toNat]?).bind fun db=>
     bif (decide (0≤(IntKind.wrap .i64 (j'-1))))&&(decide ((IntKind.wrap .i64 (j'-1))<((ae.set ((j':Int).toNat) (.agg [.int .i64 ((dS.cell 0).toInt),.int .i64 ((dS.cell 1).toInt),.list ab ((dS.cell 2).toList)])).length:Int))) then
     ((ae.set ((j':Int).toNat) (.agg [.int .i64 ((dS.cell 0).toInt),.int .i64 ((dS.cell 1).toInt),.list ab ((dS.cell 2).toList)]))[(IntKind.wrap .i64 (j'-1):Int).toNat]?).bind fun da=>
     kn (IntKind.wrap .i64 (j'-1),(ae.set ((j':Int).toNat) (.agg [.int .i64 ((dS.cell 0).toInt),.int .i64 ((dS.cell 1).toInt),.list ab ((dS.cell 2).toList)])).set ((IntKind.wrap .i64 (j'-1):Int).toNat) (.agg [.int .i64 ((iz.cell 0).toInt),.int .i64 ((iz.cell 1).toInt),.list ab ((iz.cell 2).toList)]))
     else none
    else none
    else none
   else none
  else none
  else none
 else
  kr (j',ae)
noncomputable def DC (C:af) (a b' i j:Int):(Int × (List V))→Option ((Int × (List V)) ⊕ (Int × (List V))):=un fun j' ae=>DB C a b' i j j' ae (fun y=>some (.inl y)) (fun r=>some (.inr r))
noncomputable def Jg (C:af) (a b' i j:Int) (t65:Bool) (ae:List V) {β:Type} (kr:(List V)→Option β):Option β:=
 bif t65 then
  (Loop (DC C a b' i j) (IntKind.wrap .i64 (i-1),ae)).bind (un fun (ajF:Int) (P7:List V)=>
   kr P7)
 else
  kr ae
noncomputable def DD (C:af) (a b' i j j':Int) (ae:List V) {β:Type} (kn:(Int × (List V))→Option β) (kr:(Int × (List V))→Option β):Option β:=
 bif decide ((j':Int)<b') then
  bif (decide (0≤j'))&&(decide (j'<(ae.length:Int))) then
  (ae[(j':Int).toNat]?).bind fun lX=>
  bif (decide (0≤(IntKind.wrap .i64 (j'-1))))&&(decide ((IntKind.wrap .i64 (j'-1))<(ae.length:Int))) then
   (ae[(IntKind.wrap .i64 (j'-1):Int).toNat]?).bind fun sI=>
   (C bu [.int .i64 ((lX.cell 0).toInt),.int .i64 ((lX.cell 1).toInt),.list ab ((lX.cell 2).toList),.int .i64 ((sI.cell 0).toInt),.int .i64 ((sI.cell 1).toInt),.list ab ((sI.cell 2).toList)]).bind fun eT=>
   bif !(decide ((((V.nth eT 0).toInt):Int)<0)) then
   kr (j',ae)
   else
   bif (decide (0≤(IntKind.wrap .i64 (j'-1))))&&(decide ((IntKind.wrap .i64 (j'-1))<(ae.length:Int))) then
    (ae[(IntKind.wrap .i64 (j'-1):Int).toNat]?).bind fun ez=>
    bif (decide (0≤j'))&&(decide (j'<(ae.length:Int))) then
    (ae[(j':Int).toNat]?).bind fun jN=>
    bif (decide (0≤j'))&&(decide (j'<(ae.length:Int))) then
     (ae[(j':Int).toNat]?).bind fun DE=>
     bif (decide (0≤(IntKind.wrap .i64 (j'-1))))&&(decide ((IntKind.wrap .i64 (j'-1))<((ae.set ((j':Int).toNat) (.agg [.int .i64 ((ez.cell 0).toInt),.int .i64 ((ez.cell 1).toInt),.list ab ((ez.cell 2).toList)])).length:Int))) then
     ((ae.set ((j':Int).toNat) (.agg [.int .i64 ((ez.cell 0).toInt),.int .i64 ((ez.cell 1).toInt),.list ab ((ez.cell 2).toList)]))[(IntKind.wrap .i64 (j'-1):Int).toNat]?).bind fun sJ=>
     kn (IntKind.wrap .i64 (j'+1),(ae.set ((j':Int).toNat) (.agg [.int .i64 ((ez.cell 0).toInt),.int .i64 ((ez.cell 1).toInt),.list ab ((ez.cell 2).toList)])).set ((IntKind.wrap .i64 (j'-1):Int).toNat) (.agg [.int .i64 ((jN.cell 0).toInt),.int .i64 ((jN.cell 1).toInt),.list ab ((jN.cell 2).toList)]))
     else none
    else none
    else none
   else none
  else none
  else none
 else
  kr (j',ae)
noncomputable def DF (C:af) (a b' i j:Int):(Int × (List V))→Option ((Int × (List V)) ⊕ (Int × (List V))):=un fun j' ae=>DD C a b' i j j' ae (fun y=>some (.inl y)) (fun r=>some (.inr r))
noncomputable def DG (C:af) (a b' i j:Int) (ae:List V) {β:Type} (kn:(Int × Int × (List V))→Option β) (kr:((Bool × (List V)) ⊕ (Int × Int × Bool × (List V)))→Option β):Option β:=
 bif decide ((j:Int)<5) then
  (Loop (DA C a b' j ae) i).bind (un fun (cQ:Int) (kF:Bool)=>
   bif (cQ:Int)==b' then
   kr (.inl (true,ae))
   else
   bif decide (((IntKind.wrap .i64 (b'-a)):Int)<50) then
    kr (.inl (false,ae))
   else
    bif (decide (0≤(IntKind.wrap .i64 (cQ-1))))&&(decide ((IntKind.wrap .i64 (cQ-1))<(ae.length:Int))) then
    (ae[(IntKind.wrap .i64 (cQ-1):Int).toNat]?).bind fun x6=>
    bif (decide (0≤cQ))&&(decide (cQ<(ae.length:Int))) then
     (ae[(cQ:Int).toNat]?).bind fun x7=>
     bif (decide (0≤cQ))&&(decide (cQ<(ae.length:Int))) then
     (ae[(cQ:Int).toNat]?).bind fun x8=>
     bif (decide (0≤(IntKind.wrap .i64 (cQ-1))))&&(decide ((IntKind.wrap .i64 (cQ-1))<((ae.set ((cQ:Int).toNat) (.agg [.int .i64 ((x6.cell 0).toInt),.int .i64 ((x6.cell 1).toInt),.list ab ((x6.cell 2).toList)])).length:Int))) then
      ((ae.set ((cQ:Int).toNat) (.agg [.int .i64 ((x6.cell 0).toInt),.int .i64 ((x6.cell 1).toInt),.list ab ((x6.cell 2).toList)]))[(IntKind.wrap .i64 (cQ-1):Int).toNat]?).bind fun x9=>
      Jg C a b' cQ j (decide (((IntKind.wrap .i64 (cQ-a)):Int)≥2)) ((ae.set ((cQ:Int).toNat) (.agg [.int .i64 ((x6.cell 0).toInt),.int .i64 ((x6.cell 1).toInt),.list ab ((x6.cell 2).toList)])).set ((IntKind.wrap .i64 (cQ-1):Int).toNat) (.agg [.int .i64 ((x7.cell 0).toInt),.int .i64 ((x7.cell 1).toInt),.list ab ((x7.cell 2).toList)])) (fun (DH:List V)=>
       bif decide (((IntKind.wrap .i64 (b'-cQ)):Int)≥2) then
       (Loop (DF C a b' cQ j) (IntKind.wrap .i64 (cQ+1),DH)).bind (un fun (ajG:Int) (P8:List V)=>
        kn (cQ,IntKind.wrap .i64 (j+1),P8))
       else
       kn (cQ,IntKind.wrap .i64 (j+1),DH))
     else none
     else none
    else none
    else none)
 else
  kr (.inr (i,j,decide ((j:Int)<5),ae))
noncomputable def ui (C:af) (a b':Int):(Int × Int × (List V))→Option ((Int × Int × (List V)) ⊕ ((Bool × (List V)) ⊕ (Int × Int × Bool × (List V)))):=un fun i=>un fun j ae=>DG C a b' i j ae (fun y=>some (.inl y)) (fun r=>some (.inr r))
noncomputable def YD (C:af):cj:=fun β n ds k=>
 bif Nat.beq n 81 then bt OC [false,false,true,false,false] [[1,2,0,4,0,5]] (@Dz C) ds k else
 bif Nat.beq n 225 then bt OD [false,false,false,false,true,true] [[1,2,3,4,0,0]] (@DB C) ds k else
 bif Nat.beq n 1055 then fM OE [[1,2,3,4,0]] (@Jg C) ds k else
 bif Nat.beq n 321 then bt OF [false,false,false,false,true,true] [[1,2,3,4,0,0]] (@DD C) ds k else
 bif Nat.beq n 49 then bt OG [false,false,true,true,true] [[0,0],[1,2,0,0,0,0]] (@DG C) ds k else
 none
abbrev DI (C:af) (b:cg):Prop:=ch Tryz.prog az C (YD C) 132 (cv Tryz.prog (az.aT 132)) (az.sin 132).bf.length b
theorem ajH (C:af):DI C (.loop (aq [1,1,0,1,0,0,1,0,0,0,0,0] o7)):=
 bw OC [false,false,true,false,false] [[1,2,0,4,0,5]] (@Dz C) (by kernel_rfl) (aM (bs:=[]) (by kernel_rfl) aw) (fun ds=>by kernel_rfl) (fun i x=>by kernel_rfl) (fun i x β k=>by kernel_rfl) (fun β ds k=>by kernel_rfl)
theorem ajI (C:af):DI C (.loop (aq [1,1,0,1,0,0,1,0,0,1,1,1,1,0,1,0,1,0,0] o7)):=
 bw OD [false,false,false,false,true,true] [[1,2,3,4,0,0]] (@DB C) (by kernel_rfl) (aM (bs:=[]) (by kernel_rfl) aw) (fun ds=>by kernel_rfl) (fun i x=>by kernel_rfl) (fun i x β k=>by kernel_rfl) (fun β ds k=>by kernel_rfl)
theorem ajJ (C:af):DI C (.cond 65 (aq [1,1,0,1,0,0,1,0,0,1,1,1,1,0,1,0] o7) (aq [1,1,0,1,0,0,1,0,0,1,1,1,1,0,1,1] o7)):=
 fX OE [[1,2,3,4,0]] (@Jg C) (by kernel_rfl) (aM (bs:=[.loop (aq [1,1,0,1,0,0,1,0,0,1,1,1,1,0,1,0,1,0,0] o7)]) (by kernel_rfl) (aZ (ajI C) aw)) (aM (bs:=[]) (by kernel_rfl) aw) (fun ds=>by kernel_rfl) (fun i β k=>by kernel_rfl) (fun β ds k=>by kernel_rfl)
theorem ajK (C:af):DI C (.loop (aq [1,1,0,1,0,0,1,0,0,1,1,1,1,1,1,0,1,0,0] o7)):=
 bw OF [false,false,false,false,true,true] [[1,2,3,4,0,0]] (@DD C) (by kernel_rfl) (aM (bs:=[]) (by kernel_rfl) aw) (fun ds=>by kernel_rfl) (fun i x=>by kernel_rfl) (fun i x β k=>by kernel_rfl) (fun β ds k=>by kernel_rfl)
theorem ajL (C:af):DI C (.loop (aq [1,1,0,1,0,0] o7)):=
 bw OG [false,false,true,true,true] [[0,0],[1,2,0,0,0,0]] (@DG C) (by kernel_rfl) (aM (bs:=[.loop (aq [1,1,0,1,0,0,1,0,0,0,0,0] o7),.cond 65 (aq [1,1,0,1,0,0,1,0,0,1,1,1,1,0,1,0] o7) (aq [1,1,0,1,0,0,1,0,0,1,1,1,1,0,1,1] o7),.loop (aq [1,1,0,1,0,0,1,0,0,1,1,1,1,1,1,0,1,0,0] o7)]) (by kernel_rfl) (aZ (ajH C) (aZ (ajJ C) (aZ (ajK C) aw)))) (fun ds=>by kernel_rfl) (fun i x=>by kernel_rfl) (fun i x β k=>by kernel_rfl) (fun β ds k=>by kernel_rfl)
noncomputable def YE (C:af) (a b':Int) (ae:List V):Option (List V):=
 (Loop (ui C a b') (IntKind.wrap .i64 (a+1),0,ae)).bind (bD (un fun (v9:Bool) (P9:List V)=>
  some [.bool v9,.list ab P9]) (un fun (ajM:Int)=>un fun (ajN:Int)=>un fun (za:Bool) (Qa:List V)=>
  some [.bool false,.list ab Qa]))
theorem ajO {a b':Int} {ae:List V} {r:Option (List V)} (h:YE CC a b' ae=r):CC Ic [.int .i64 a,.int .i64 b',.list ab ae]=r:=
 bn (key:=132) (L:=YD CC) (bs:=[.loop (aq [1,1,0,1,0,0] o7)]) (by kernel_rfl) (aZ (ajL CC) aw) (bm (by kernel_rfl) h)
end Go.AM
set_option maxRecDepth 100000
set_option maxHeartbeats 4000000
namespace Go.AM.SX
open Go.Proofs Go.Sort
theorem nK (p:XE→Bool) (d:Array XE) (j i:Nat):scanUp p d j i=if i≤j then (if p d[i]! =true then scanUp p d j (i+1) else i) else i:=by
 conv=>lhs;rw[scanUp]
 by_cases h:i≤j
 ·rw[ag h];simp only[h,og,lE]
 ·rw[ah h,ah (by simp[h])]
theorem wB (p:XE→Bool) (d:Array XE) (i j:Nat):scanDown p d i (j+1)=if i≤j+1 then (if p d[j+1]! =true then scanDown p d i j else j+1) else j+1:=by
 conv=>lhs;rw[scanDown]
 by_cases h:i≤j+1
 ·rw[ag h];simp only[h,og,lE]
 ·rw[ah h,ah (by simp[h])]
theorem sK (d:Array XE) (b i:Nat):scanSorted an d b i=if i<b then (if cx d[i]! d[i-1]! <0 then i else scanSorted an d b (i+1)) else i:=by
 conv=>lhs;rw[scanSorted]
 by_cases h:i<b
 ·rw[ag h];simp only[h,og,lE,jM]
  by_cases h2:cx d[i]! d[i-1]! <0
  ·rw[ah (jU h2),ag h2]
  ·rw[ag h2,ah h2]
 ·rw[ah h,ah (by simp[h])]
theorem DJ (j:Nat) (d:Array XE):shiftDown an (j+1) d=if cx d[j+1]! d[j]! <0 then shiftDown an j (swp d (j+1) j) else d:=by
 conv=>lhs;rw[shiftDown]
 simp only[jM]
 by_cases h2:cx d[j+1]! d[j]! <0
 ·rw[ah (jU h2),ag h2]
 ·rw[ag h2,ah h2]
theorem sL (b j:Nat) (d:Array XE):shiftUp an b j d=if j<b then (if cx d[j]! d[j-1]! <0 then shiftUp an b (j+1) (swp d j (j-1)) else d) else d:=by
 conv=>lhs;rw[shiftUp]
 simp only[jM]
 by_cases h:j<b
 ·rw[ag h,ag h]
  by_cases h2:cx d[j]! d[j-1]! <0
  ·rw[ah (jU h2),ag h2]
  ·rw[ag h2,ah h2]
 ·rw[ah h,ah h]
theorem Qb {a:Nat}: ∀(n i j:Nat) (d:Array XE),j+1-i≤n→(partLoop an a i j d).2.size=d.size∧(partLoop an a i j d).1≤j:=by
 intro n
 induction n with
 | zero=>
  intro i j d hn
  have h1:=scanUp_ge (fun x=>an x d[a]!) d j i
  have h2:=scanDown_le (fun x=> !an x d[a]!) d (scanUp (fun x=>an x d[a]!) d j i) j
  rw[partLoop_eq,ag (by omega)]
  exact ⟨rfl,h2⟩
 | succ n ih=>
  intro i j d hn
  rw[partLoop_eq]
  have h1:=scanUp_ge (fun x=>an x d[a]!) d j i
  have h2:=scanDown_le (fun x=> !an x d[a]!) d (scanUp (fun x=>an x d[a]!) d j i) j
  split
  ·exact ⟨rfl,h2⟩
  ·obtain ⟨h3,h4⟩:=ih (scanUp (fun x=>an x d[a]!) d j i+1) (scanDown (fun x=> !an x d[a]!) d (scanUp (fun x=>an x d[a]!) d j i) j-1) (swp d (scanUp (fun x=>an x d[a]!) d j i) (scanDown (fun x=> !an x d[a]!) d (scanUp (fun x=>an x d[a]!) d j i) j)) (by omega)
   exact ⟨by rw[h3,size_swp],by omega⟩
theorem eU {β:Type} {d:Array XE} {i:Nat} {x y:Option β} (h:i<d.size):(bif (decide (0≤(i:Int)))&&(decide ((i:Int)<((eA d).length:Int))) then x else y)=x:=by
 rw[dg,bK,ar,ag (by omega),ar,ag (by omega)]
theorem sM {β:Type} {d:Array XE} {i k:Nat} {v:V} {x y:Option β} (h:i<d.size):(bif (decide (0≤(i:Int)))&&(decide ((i:Int)<(((eA d).set k v).length:Int))) then x else y)=x:=by
 rw[kR,dg,bK,ar,ag (by omega),ar,ag (by omega)]
theorem eV {β:Type} {d:Array XE} {i:Nat} {f:V→Option β} (h:i<d.size):((eA d)[(i:Int).toNat]?).bind f=f (d[i]!).enc:=by
 rw[Int.toNat_natCast,dm h];rfl
theorem sN {β:Type} {d:Array XE} {i k:Nat} {v:V} {x:Option β} (h:i<d.size):(((eA d).set k v)[(i:Int).toNat]?).bind (fun _=>x)=x:=by
 rw[Int.toNat_natCast,bZ (by rw[kR,dg];exact h)];rfl
theorem jP {β:Type} {d:Array XE} {i:Nat} {f:V→Option β} (h:i<d.size):((eA d)[i]?).bind f=f (d[i]!).enc:=by
 rw[dm h];rfl
theorem wC {β:Type} {d:Array XE} {i k:Nat} {v:V} {x:Option β} (h:i<d.size):(((eA d).set k v)[i]?).bind (fun _=>x)=x:=by
 rw[bZ (by rw[kR,dg];exact h)];rfl
theorem Qc {a j:Nat} {d:Array XE} (ha:a<d.size) (hj:j<d.size) (hs:d.size<1152921504606846976): ∀(n i:Nat),j+1-i=n→i≤d.size→
  ∃t,Loop (Dr CC a j (eA d)) (i:Int)=some (((scanUp (fun x=>an x d[a]!) d j i:Nat):Int),t):=by
 intro n
 induction n with
 | zero=>
  intro i hn hi
  rw[nK,ah (by omega)]
  exact ⟨false,aG (by simp (disch:=omega) only[Dr,Dq,ar,ah])⟩
 | succ n ih=>
  intro i hn hi
  obtain ⟨t,h⟩:=ih (i+1) (by omega) (by omega)
  rw[nK,ag (by omega)]
  have e:Dr CC a j (eA d) (i:Int)=if cx d[i]! d[a]! <0 then some (.inl ((i+1:Nat):Int)) else some (.inr ((i:Int),decide (cx d[i]! d[a]! <0))):=by
   simp (disch:=omega) only[Dr,Dq,ar,bK,dH,ag,ah,wrap64,bW,di,Int.toNat_natCast,Option.bind_some,dg,dm,XE.aH,XE.aN,XE.aK,XE.re,dh,dM,dF,iN,V.aD,V.toInt_int,cond_true,cond_false]
  simp only[kK]
  by_cases h2:cx d[i]! d[a]! <0
  ·rw[ag h2] at e
   rw[ag h2]
   exact ⟨t,(br e).trans h⟩
  ·rw[ah h2] at e
   rw[ah h2]
   exact ⟨_,aG e⟩
theorem DK {a j:Nat} {d:Array XE} (ha:a<d.size) (hj:j<d.size) (hs:d.size<1152921504606846976): ∀(n i:Nat),j+1-i=n→i≤d.size→
  ∃t,Loop (Dt CC a j (eA d)) (i:Int)=some (((scanUp (fun x=>an x d[a]!) d j i:Nat):Int),t):=by
 intro n
 induction n with
 | zero=>
  intro i hn hi
  rw[nK,ah (by omega)]
  exact ⟨false,aG (by simp (disch:=omega) only[Dt,Ds,ar,ah])⟩
 | succ n ih=>
  intro i hn hi
  obtain ⟨t,h⟩:=ih (i+1) (by omega) (by omega)
  rw[nK,ag (by omega)]
  have e:Dt CC a j (eA d) (i:Int)=if cx d[i]! d[a]! <0 then some (.inl ((i+1:Nat):Int)) else some (.inr ((i:Int),decide (cx d[i]! d[a]! <0))):=by
   simp (disch:=omega) only[Dt,Ds,ar,bK,dH,ag,ah,wrap64,bW,di,Int.toNat_natCast,Option.bind_some,dg,dm,XE.aH,XE.aN,XE.aK,XE.re,dh,dM,dF,iN,V.aD,V.toInt_int,cond_true,cond_false]
  simp only[kK]
  by_cases h2:cx d[i]! d[a]! <0
  ·rw[ag h2] at e
   rw[ag h2]
   exact ⟨t,(br e).trans h⟩
  ·rw[ah h2] at e
   rw[ah h2]
   exact ⟨_,aG e⟩
theorem DL {a i:Nat} {d:Array XE} (ha:a<d.size) (hi:1≤i) (hs:d.size<1152921504606846976): ∀(j:Nat),j<d.size→
  ∃t,Loop (zD CC a i (eA d)) (j:Int)=some (((scanDown (fun x=> !an x d[a]!) d i j:Nat):Int),t)
 | 0,hj=>⟨false,aG (by simp (disch:=omega) only[zD,zC,ar,ah];rfl)⟩
 | j+1,hj=>by
  obtain ⟨t,h⟩:=DL ha hi hs j (by omega)
  rw[wB]
  by_cases h1:i≤j+1
  ·rw[ag h1]
   have e:zD CC a i (eA d) ((j+1:Nat):Int)=if cx d[j+1]! d[a]! <0 then some (.inr (((j+1:Nat):Int),!decide (cx d[j+1]! d[a]! <0))) else some (.inl (j:Int)):=by
    simp (disch:=omega) only[zD,zC,ar,bK,dH,ag,ah,wrap64,bW,di,Int.toNat_natCast,Option.bind_some,dg,dm,XE.aH,XE.aN,XE.aK,XE.re,dh,dM,dF,iN,V.aD,V.toInt_int,cond_true,cond_false,lU]
   simp only[jM]
   by_cases h2:cx d[j+1]! d[a]! <0
   ·rw[ag h2] at e
    rw[ah (jU h2)]
    exact ⟨_,aG e⟩
   ·rw[ah h2] at e
    rw[ag h2]
    exact ⟨t,(br e).trans h⟩
  ·rw[ah h1]
   exact ⟨false,aG (by simp (disch:=omega) only[zD,zC,ar,ah])⟩
theorem wD {a i:Nat} {d:Array XE} (ha:a<d.size) (hi:1≤i) (hs:d.size<1152921504606846976): ∀(j:Nat),j<d.size→
  ∃t,Loop (zG CC a i (eA d)) (j:Int)=some (((scanDown (fun x=> !an x d[a]!) d i j:Nat):Int),t)
 | 0,hj=>⟨false,aG (by simp (disch:=omega) only[zG,zF,ar,ah];rfl)⟩
 | j+1,hj=>by
  obtain ⟨t,h⟩:=wD ha hi hs j (by omega)
  rw[wB]
  by_cases h1:i≤j+1
  ·rw[ag h1]
   have e:zG CC a i (eA d) ((j+1:Nat):Int)=if cx d[j+1]! d[a]! <0 then some (.inr (((j+1:Nat):Int),!decide (cx d[j+1]! d[a]! <0))) else some (.inl (j:Int)):=by
    simp (disch:=omega) only[zG,zF,ar,bK,dH,ag,ah,wrap64,bW,di,Int.toNat_natCast,Option.bind_some,dg,dm,XE.aH,XE.aN,XE.aK,XE.re,dh,dM,dF,iN,V.aD,V.toInt_int,cond_true,cond_false,lU]
   simp only[jM]
   by_cases h2:cx d[j+1]! d[a]! <0
   ·rw[ag h2] at e
    rw[ah (jU h2)]
    exact ⟨_,aG e⟩
   ·rw[ah h2] at e
    rw[ag h2]
    exact ⟨t,(br e).trans h⟩
  ·rw[ah h1]
   exact ⟨false,aG (by simp (disch:=omega) only[zG,zF,ar,ah])⟩
theorem DM {a j:Nat} {d:Array XE} (ha:a<d.size) (hj:j<d.size) (hs:d.size<1152921504606846976): ∀(n i:Nat),j+1-i=n→i≤d.size→
  ∃t,Loop (Dx CC a j (eA d)) (i:Int)=some (((scanUp (fun x=> !an d[a]! x) d j i:Nat):Int),t):=by
 intro n
 induction n with
 | zero=>
  intro i hn hi
  rw[nK,ah (by omega)]
  exact ⟨false,aG (by simp (disch:=omega) only[Dx,Dw,ar,ah])⟩
 | succ n ih=>
  intro i hn hi
  obtain ⟨t,h⟩:=ih (i+1) (by omega) (by omega)
  rw[nK,ag (by omega)]
  have e:Dx CC a j (eA d) (i:Int)=if cx d[a]! d[i]! <0 then some (.inr ((i:Int),!decide (cx d[a]! d[i]! <0))) else some (.inl ((i+1:Nat):Int)):=by
   simp (disch:=omega) only[Dx,Dw,ar,bK,dH,ag,ah,wrap64,bW,di,Int.toNat_natCast,Option.bind_some,dg,dm,XE.aH,XE.aN,XE.aK,XE.re,dh,dM,dF,iN,V.aD,V.toInt_int,cond_true,cond_false]
  simp only[jM]
  by_cases h2:cx d[a]! d[i]! <0
  ·rw[ag h2] at e
   rw[ah (jU h2)]
   exact ⟨_,aG e⟩
  ·rw[ah h2] at e
   rw[ag h2]
   exact ⟨t,(br e).trans h⟩
theorem wE {a i:Nat} {d:Array XE} (ha:a<d.size) (hi:1≤i) (hs:d.size<1152921504606846976): ∀(j:Nat),j<d.size→
  ∃t,Loop (zK CC a i (eA d)) (j:Int)=some (((scanDown (fun x=>an d[a]! x) d i j:Nat):Int),t)
 | 0,hj=>⟨false,aG (by simp (disch:=omega) only[zK,zJ,ar,ah];rfl)⟩
 | j+1,hj=>by
  obtain ⟨t,h⟩:=wE ha hi hs j (by omega)
  rw[wB]
  by_cases h1:i≤j+1
  ·rw[ag h1]
   have e:zK CC a i (eA d) ((j+1:Nat):Int)=if cx d[a]! d[j+1]! <0 then some (.inl (j:Int)) else some (.inr (((j+1:Nat):Int),decide (cx d[a]! d[j+1]! <0))):=by
    simp (disch:=omega) only[zK,zJ,ar,bK,dH,ag,ah,wrap64,bW,di,Int.toNat_natCast,Option.bind_some,dg,dm,XE.aH,XE.aN,XE.aK,XE.re,dh,dM,dF,iN,V.aD,V.toInt_int,cond_true,cond_false,lU]
   simp only[kK]
   by_cases h2:cx d[a]! d[j+1]! <0
   ·rw[ag h2] at e
    rw[ag h2]
    exact ⟨t,(br e).trans h⟩
   ·rw[ah h2] at e
    rw[ah h2]
    exact ⟨_,aG e⟩
  ·rw[ah h1]
   exact ⟨false,aG (by simp (disch:=omega) only[zK,zJ,ar,ah])⟩
theorem Qd {a:Nat}: ∀(n i j:Nat) (d:Array XE),j+1-i≤n→1≤i→i≤d.size→a<d.size→j<d.size→d.size<1152921504606846976→
  ∃x z,Loop (zH CC a) ((i:Int),(j:Int),eA d)=some (x,(((partLoop an a i j d).1:Nat):Int),z,eA (partLoop an a i j d).2):=by
 intro n
 induction n with
 | zero=>
  intro i j d hn h1 h2 ha hj hs
  obtain ⟨t3,e3⟩:=DK (a:=a) ha hj hs _ i rfl h2
  have g1:=scanUp_ge (fun x=>an x d[a]!) d j i
  have g2:=scanDown_le (fun x=> !an x d[a]!) d (scanUp (fun x=>an x d[a]!) d j i) j
  obtain ⟨t4,e4⟩:=wD (a:=a) (i:=scanUp (fun x=>an x d[a]!) d j i) ha (by omega) hs j hj
  rw[partLoop_eq,ag (by omega)]
  refine ⟨((scanUp (fun x=>an x d[a]!) d j i:Nat):Int),true,aG ?_⟩
  simp only[zH,Du,un]
  rw[e3]
  simp only[Option.bind_some,un]
  rw[e4]
  simp (disch:=omega) only[Option.bind_some,un,hD,cond_true]
 | succ n ih=>
  intro i j d hn h1 h2 ha hj hs
  obtain ⟨t3,e3⟩:=DK (a:=a) ha hj hs _ i rfl h2
  have g1:=scanUp_ge (fun x=>an x d[a]!) d j i
  have g2:=scanDown_le (fun x=> !an x d[a]!) d (scanUp (fun x=>an x d[a]!) d j i) j
  obtain ⟨t4,e4⟩:=wD (a:=a) (i:=scanUp (fun x=>an x d[a]!) d j i) ha (by omega) hs j hj
  rw[partLoop_eq]
  have f:zH CC a ((i:Int),(j:Int),eA d)=zH CC a ((i:Int),(j:Int),eA d):=rfl
  conv at f=>rhs;simp only[zH,Du,un];rw[e3];simp only[Option.bind_some,un];rw[e4];simp only[Option.bind_some,un]
  generalize eE:scanUp (fun x=>an x d[a]!) d j i=i2 at*
  generalize ig:scanDown (fun x=> !an x d[a]!) d i2 j=j2 at*
  by_cases h:i2>j2
  ·rw[ag h]
   refine ⟨(i2:Int),true,aG (f.trans ?_)⟩
   simp (disch:=omega) only[Option.bind_some,hD,cond_true]
  ·rw[ah h]
   obtain ⟨x,z,e⟩:=ih (i2+1) (j2-1) (swp d i2 j2) (by omega) (by omega) (by rw[size_swp];omega) (by rw[size_swp];omega) (by rw[size_swp];omega) (by rw[size_swp];omega)
   refine ⟨x,z,(br (f.trans ?_)).trans e⟩
   simp (disch:=omega) only[ar,bK,dH,ag,ah,wrap64,bW,di,Int.toNat_natCast,Option.bind_some,dg,dm,XE.aH,XE.aN,XE.aK,XE.re,dh,dM,dF,iN,V.aD,V.toInt_int,cond_true,cond_false,eS]
   rfl
theorem Qe (d:Array XE) (a b pivot:Nat):partition an d a b pivot=
  if scanUp (fun x=>an x (swp d a pivot)[a]!) (swp d a pivot) (b-1) (a+1)>scanDown (fun x=> !an x (swp d a pivot)[a]!) (swp d a pivot) (scanUp (fun x=>an x (swp d a pivot)[a]!) (swp d a pivot) (b-1) (a+1)) (b-1) then
   (scanDown (fun x=> !an x (swp d a pivot)[a]!) (swp d a pivot) (scanUp (fun x=>an x (swp d a pivot)[a]!) (swp d a pivot) (b-1) (a+1)) (b-1),true,swp (swp d a pivot) (scanDown (fun x=> !an x (swp d a pivot)[a]!) (swp d a pivot) (scanUp (fun x=>an x (swp d a pivot)[a]!) (swp d a pivot) (b-1) (a+1)) (b-1)) a)
  else
   ((partLoop an a (scanUp (fun x=>an x (swp d a pivot)[a]!) (swp d a pivot) (b-1) (a+1)+1) (scanDown (fun x=> !an x (swp d a pivot)[a]!) (swp d a pivot) (scanUp (fun x=>an x (swp d a pivot)[a]!) (swp d a pivot) (b-1) (a+1)) (b-1)-1) (swp (swp d a pivot) (scanUp (fun x=>an x (swp d a pivot)[a]!) (swp d a pivot) (b-1) (a+1)) (scanDown (fun x=> !an x (swp d a pivot)[a]!) (swp d a pivot) (scanUp (fun x=>an x (swp d a pivot)[a]!) (swp d a pivot) (b-1) (a+1)) (b-1)))).1,false,
    swp (partLoop an a (scanUp (fun x=>an x (swp d a pivot)[a]!) (swp d a pivot) (b-1) (a+1)+1) (scanDown (fun x=> !an x (swp d a pivot)[a]!) (swp d a pivot) (scanUp (fun x=>an x (swp d a pivot)[a]!) (swp d a pivot) (b-1) (a+1)) (b-1)-1) (swp (swp d a pivot) (scanUp (fun x=>an x (swp d a pivot)[a]!) (swp d a pivot) (b-1) (a+1)) (scanDown (fun x=> !an x (swp d a pivot)[a]!) (swp d a pivot) (scanUp (fun x=>an x (swp d a pivot)[a]!) (swp d a pivot) (b-1) (a+1)) (b-1)))).2
    (partLoop an a (scanUp (fun x=>an x (swp d a pivot)[a]!) (swp d a pivot) (b-1) (a+1)+1) (scanDown (fun x=> !an x (swp d a pivot)[a]!) (swp d a pivot) (scanUp (fun x=>an x (swp d a pivot)[a]!) (swp d a pivot) (b-1) (a+1)) (b-1)-1) (swp (swp d a pivot) (scanUp (fun x=>an x (swp d a pivot)[a]!) (swp d a pivot) (b-1) (a+1)) (scanDown (fun x=> !an x (swp d a pivot)[a]!) (swp d a pivot) (scanUp (fun x=>an x (swp d a pivot)[a]!) (swp d a pivot) (b-1) (a+1)) (b-1)))).1 a):=rfl
theorem nL (d:Array XE) (i j:Nat):eA ((d.setIfInBounds i d[j]!).setIfInBounds j d[i]!)=eA (swp d i j):=rfl
theorem Qf {a b pivot:Nat} {d:Array XE} (hp:pivot<b) (dq:a<b) (hb:b≤d.size) (hs:d.size<1152921504606846976):
  CC oT [.int .i64 (a:Int),.int .i64 (b:Int),.int .i64 (pivot:Int),.list ab (eA d)]=
   some [.int .i64 ((partition an d a b pivot).1:Int),.bool (partition an d a b pivot).2.1,.list ab (eA (partition an d a b pivot).2.2)]:=by
 refine ajz ?_
 unfold YA
 have z1:(swp d a pivot).size=d.size:=size_swp ..
 obtain ⟨t1,e1⟩:=Qc (a:=a) (j:=b-1) (d:=swp d a pivot) (by omega) (by omega) (by omega) _ (a+1) rfl (by omega)
 have g1:=scanUp_ge (fun x=>an x (swp d a pivot)[a]!) (swp d a pivot) (b-1) (a+1)
 have g2:=scanDown_le (fun x=> !an x (swp d a pivot)[a]!) (swp d a pivot) (scanUp (fun x=>an x (swp d a pivot)[a]!) (swp d a pivot) (b-1) (a+1)) (b-1)
 obtain ⟨t2,e2⟩:=DL (a:=a) (i:=scanUp (fun x=>an x (swp d a pivot)[a]!) (swp d a pivot) (b-1) (a+1)) (d:=swp d a pivot) (by omega) (by omega) (by omega) (b-1) (by omega)
 have e0:=Qe d a b pivot
 rw[eU (i:=pivot) (by omega),eV (by omega),eU (i:=a) (by omega),eV (by omega),eU (i:=a) (by omega),eV (by omega),sM (i:=pivot) (by omega),sN (by omega)]
 simp only[XE.aH,XE.aN,XE.aK,XE.re,Int.toNat_natCast,dh,nL]
 simp (disch:=omega) only[eS,bW,wrap64]
 rw[e1]
 simp only[Option.bind_some,un]
 rw[e2]
 simp only[Option.bind_some,un]
 generalize eE:scanUp (fun x=>an x (swp d a pivot)[a]!) (swp d a pivot) (b-1) (a+1)=i2 at*
 generalize ig:scanDown (fun x=> !an x (swp d a pivot)[a]!) (swp d a pivot) i2 (b-1)=j2 at*
 generalize swp d a pivot=d1 at*
 by_cases h:i2>j2
 ·rw[ag h] at e0
  rw[e0,ar,ag (by omega)]
  rw[eU (i:=a) (by omega)];(first|rw[eV (by omega)]|rw[jP (by omega)]);rw[eU (i:=j2) (by omega)];(first|rw[eV (by omega)]|rw[jP (by omega)]);rw[eU (i:=j2) (by omega)];(first|rw[eV (by omega)]|rw[jP (by omega)]);rw[sM (i:=a) (by omega)];(first|rw[sN (by omega)]|rw[wC (by omega)])
  simp only[XE.aH,XE.aN,XE.aK,XE.re,Int.toNat_natCast,dh,nL]
 ·rw[ah h] at e0
  rw[e0,ar,ah (by omega)]
  have z2:(swp d1 i2 j2).size=d1.size:=size_swp ..
  obtain ⟨x,z,e5⟩:=Qd (a:=a) _ (i2+1) (j2-1) (swp d1 i2 j2) (bN _) (by omega) (by omega) (by omega) (by omega) (by omega)
  obtain ⟨q1,q2⟩:=Qb (a:=a) _ (i2+1) (j2-1) (swp d1 i2 j2) (bN _)
  rw[eU (i:=j2) (by omega)];(first|rw[eV (by omega)]|rw[jP (by omega)]);rw[eU (i:=i2) (by omega)];(first|rw[eV (by omega)]|rw[jP (by omega)]);rw[eU (i:=i2) (by omega)];(first|rw[eV (by omega)]|rw[jP (by omega)]);rw[sM (i:=j2) (by omega)];(first|rw[sN (by omega)]|rw[wC (by omega)])
  simp only[XE.aH,XE.aN,XE.aK,XE.re,Int.toNat_natCast,dh,nL]
  simp (disch:=omega) only[eS,bW,wrap64]
  rw[e5]
  generalize partLoop an a (i2+1) (j2-1) (swp d1 i2 j2)=r at*
  simp only[Option.bind_some,un]
  rw[eU (i:=a) (by omega)];(first|rw[eV (by omega)]|rw[jP (by omega)]);rw[eU (i:=r.1) (by omega)];(first|rw[eV (by omega)]|rw[jP (by omega)]);rw[eU (i:=r.1) (by omega)];(first|rw[eV (by omega)]|rw[jP (by omega)]);rw[sM (i:=a) (by omega)];(first|rw[sN (by omega)]|rw[wC (by omega)])
  simp only[XE.aH,XE.aN,XE.aK,XE.re,Int.toNat_natCast,dh,nL]
theorem Qg {a:Nat}: ∀(n i j:Nat) (d:Array XE),j+1-i≤n→1≤i→i≤d.size→a<d.size→j<d.size→d.size<1152921504606846976→
  ∃x z,Loop (zL CC a) ((i:Int),(j:Int),eA d)=some ((((partEqLoop an a i j d).1:Nat):Int),x,z,eA (partEqLoop an a i j d).2):=by
 intro n
 induction n with
 | zero=>
  intro i j d hn h1 h2 ha hj hs
  obtain ⟨t3,e3⟩:=DM (a:=a) ha hj hs _ i rfl h2
  have g1:=scanUp_ge (fun x=> !an d[a]! x) d j i
  have g2:=scanDown_le (fun x=>an d[a]! x) d (scanUp (fun x=> !an d[a]! x) d j i) j
  obtain ⟨t4,e4⟩:=wE (a:=a) (i:=scanUp (fun x=> !an d[a]! x) d j i) ha (by omega) hs j hj
  rw[partEqLoop_eq,ag (by omega)]
  refine ⟨((scanDown (fun x=>an d[a]! x) d (scanUp (fun x=> !an d[a]! x) d j i) j:Nat):Int),true,aG ?_⟩
  simp only[zL,Dy,un]
  rw[e3]
  simp only[Option.bind_some,un]
  rw[e4]
  simp (disch:=omega) only[Option.bind_some,un,hD,cond_true]
 | succ n ih=>
  intro i j d hn h1 h2 ha hj hs
  obtain ⟨t3,e3⟩:=DM (a:=a) ha hj hs _ i rfl h2
  have g1:=scanUp_ge (fun x=> !an d[a]! x) d j i
  have g2:=scanDown_le (fun x=>an d[a]! x) d (scanUp (fun x=> !an d[a]! x) d j i) j
  obtain ⟨t4,e4⟩:=wE (a:=a) (i:=scanUp (fun x=> !an d[a]! x) d j i) ha (by omega) hs j hj
  rw[partEqLoop_eq]
  have f:zL CC a ((i:Int),(j:Int),eA d)=zL CC a ((i:Int),(j:Int),eA d):=rfl
  conv at f=>rhs;simp only[zL,Dy,un];rw[e3];simp only[Option.bind_some,un];rw[e4];simp only[Option.bind_some,un]
  generalize eE:scanUp (fun x=> !an d[a]! x) d j i=i2 at*
  generalize ig:scanDown (fun x=>an d[a]! x) d i2 j=j2 at*
  by_cases h:i2>j2
  ·rw[ag h]
   refine ⟨(j2:Int),true,aG (f.trans ?_)⟩
   simp (disch:=omega) only[Option.bind_some,hD,cond_true]
  ·rw[ah h]
   obtain ⟨x,z,e⟩:=ih (i2+1) (j2-1) (swp d i2 j2) (by omega) (by omega) (by rw[size_swp];omega) (by rw[size_swp];omega) (by rw[size_swp];omega) (by rw[size_swp];omega)
   refine ⟨x,z,(br (f.trans ?_)).trans e⟩
   simp (disch:=omega) only[ar,bK,dH,ag,ah,wrap64,bW,di,Int.toNat_natCast,Option.bind_some,dg,dm,XE.aH,XE.aN,XE.aK,XE.re,dh,dM,dF,iN,V.aD,V.toInt_int,cond_true,cond_false,eS]
   rfl
theorem Qh {a b pivot:Nat} {d:Array XE} (hp:pivot<b) (dq:a<b) (hb:b≤d.size) (hs:d.size<1152921504606846976):
  CC vV [.int .i64 (a:Int),.int .i64 (b:Int),.int .i64 (pivot:Int),.list ab (eA d)]=
   some [.int .i64 ((partitionEqual an d a b pivot).1:Int),.list ab (eA (partitionEqual an d a b pivot).2)]:=by
 refine ajE ?_
 unfold YC
 have z1:(swp d a pivot).size=d.size:=size_swp ..
 obtain ⟨x,z,e⟩:=Qg (a:=a) _ (a+1) (b-1) (swp d a pivot) (bN _) (by omega) (by omega) (by omega) (by omega) (by omega)
 simp (disch:=omega) only[ar,bK,ag,dg,dm,Int.toNat_natCast,Option.bind_some,XE.aH,XE.aN,XE.aK,XE.re,dh,dM,dF,eS,bW,wrap64,nL]
 rw[e]
 rfl
theorem Qi {a b j:Nat} {d:Array XE} (hb:b≤d.size) (hs:d.size<1152921504606846976): ∀(n i:Nat),b-i=n→1≤i→i≤b→
  ∃t,Loop (DA CC a b j (eA d)) (i:Int)=some (((scanSorted an d b i:Nat):Int),t):=by
 intro n
 induction n with
 | zero=>
  intro i hn h1 hi
  rw[sK,ah (by omega)]
  exact ⟨false,aG (by simp (disch:=omega) only[DA,Dz,ar,ah])⟩
 | succ n ih=>
  intro i hn h1 hi
  obtain ⟨t,h⟩:=ih (i+1) (by omega) (by omega) (by omega)
  rw[sK,ag (by omega)]
  have e:DA CC a b j (eA d) (i:Int)=if cx d[i]! d[i-1]! <0 then some (.inr ((i:Int),!decide (cx d[i]! d[i-1]! <0))) else some (.inl ((i+1:Nat):Int)):=by
   simp (disch:=omega) only[DA,Dz,eS,ar,bK,dH,ag,ah,wrap64,bW,di,Int.toNat_natCast,Option.bind_some,dg,dm,XE.aH,XE.aN,XE.aK,XE.re,dh,dM,dF,iN,V.aD,V.toInt_int,cond_true,cond_false]
  by_cases h2:cx d[i]! d[i-1]! <0
  ·rw[ag h2] at e⊢
   exact ⟨_,aG e⟩
  ·rw[ah h2] at e⊢
   exact ⟨t,(br e).trans h⟩
theorem DN: ∀(j:Nat) (d:Array XE),(shiftDown an j d).size=d.size
 | 0,_=>rfl
 | j+1,d=>by
  rw[DJ]
  split
  ·rw[DN j,size_swp]
  ·rfl
theorem Qj {b:Nat}: ∀(n j:Nat) (d:Array XE),b-j=n→(shiftUp an b j d).size=d.size:=by
 intro n
 induction n with
 | zero=>intro j d h;rw[sL,ah (by omega)]
 | succ n ih=>
  intro j d h
  rw[sL,ag (by omega)]
  split
  ·rw[ih _ _ (by omega),size_swp]
  ·rfl
theorem DO {a b i k:Nat}: ∀(j:Nat) (d:Array XE),j<d.size→d.size<1152921504606846976→
  ∃t,Loop (DC CC a b i k) ((j:Int),eA d)=some (t,eA (shiftDown an j d))
 | 0,d,hj,hs=>⟨(0:Nat),aG (by
   simp (disch:=omega) only[DC,DB,un,ar,ah]
   rfl)⟩
 | j+1,d,hj,hs=>by
  obtain ⟨t,ih⟩:=DO (a:=a) (b:=b) (i:=i) (k:=k) j (swp d (j+1) j) (by rw[size_swp];omega) (by rw[size_swp];omega)
  rw[DJ]
  have e:DC CC a b i k (((j+1:Nat):Int),eA d)=if cx d[j+1]! d[j]! <0 then some (.inl ((j:Int),eA (swp d (j+1) j))) else some (.inr (((j+1:Nat):Int),eA d)):=by
   simp (disch:=omega) only[DC,DB,un,ar,bK,dH,ag,ah,wrap64,bW,di,Int.toNat_natCast,Option.bind_some,dg,dm,XE.aH,XE.aN,XE.aK,XE.re,dh,dM,dF,iN,V.aD,V.toInt_int,cond_true,cond_false,lU]
   rfl
  by_cases h2:cx d[j+1]! d[j]! <0
  ·rw[ag h2] at e⊢
   exact ⟨t,(br e).trans ih⟩
  ·rw[ah h2] at e⊢
   exact ⟨_,aG e⟩
theorem Qk {a b i k:Nat}: ∀(n j:Nat) (d:Array XE),b-j=n→1≤j→j≤b→b≤d.size→d.size<1152921504606846976→
  ∃t,Loop (DF CC a b i k) ((j:Int),eA d)=some (t,eA (shiftUp an b j d)):=by
 intro n
 induction n with
 | zero=>
  intro j d hn h1 hj hb hs
  rw[sL,ah (by omega)]
  exact ⟨(j:Int),aG (by
   simp (disch:=omega) only[DF,DD,un,ar,ah])⟩
 | succ n ih=>
  intro j d hn h1 hj hb hs
  obtain ⟨t,h⟩:=ih (j+1) (swp d j (j-1)) (by omega) (by omega) (by omega) (by rw[size_swp];omega) (by rw[size_swp];omega)
  rw[sL,ag (by omega)]
  have e:DF CC a b i k ((j:Int),eA d)=if cx d[j]! d[j-1]! <0 then some (.inl (((j+1:Nat):Int),eA (swp d j (j-1)))) else some (.inr ((j:Int),eA d)):=by
   simp (disch:=omega) only[DF,DD,un,eS,ar,bK,dH,ag,ah,wrap64,bW,di,Int.toNat_natCast,Option.bind_some,dg,dm,XE.aH,XE.aN,XE.aK,XE.re,dh,dM,dF,iN,V.aD,V.toInt_int,cond_true,cond_false]
   rfl
  by_cases h2:cx d[j]! d[j-1]! <0
  ·rw[ag h2] at e⊢
   exact ⟨t,(br e).trans h⟩
  ·rw[ah h2] at e⊢
   exact ⟨_,aG e⟩
theorem Ql {d:Array XE} {b:Nat}: ∀(n i:Nat),b-i=n→i≤b→i≤scanSorted an d b i∧scanSorted an d b i≤b:=by
 intro n
 induction n with
 | zero=>intro i hn hi;rw[sK,ah (by omega)];omega
 | succ n ih=>
  intro i hn hi
  rw[sK,ag (by omega)]
  obtain ⟨h1,h2⟩:=ih (i+1) (by omega) (by omega)
  split<;>omega
theorem Qm {a b:Nat}: ∀(s i:Nat) (d:Array XE),s≤5→a<i→i≤b→b≤d.size→d.size<1152921504606846976→
  (Loop (ui CC a b) ((i:Int),((5-s:Nat):Int),eA d)=some (.inl ((partialIns an a b s i d).2,eA (partialIns an a b s i d).1)))∨
  (∃x y z,(partialIns an a b s i d).2=false∧Loop (ui CC a b) ((i:Int),((5-s:Nat):Int),eA d)=some (.inr (x,y,z,eA (partialIns an a b s i d).1))):=by
 intro s
 induction s with
 | zero=>
  intro i d Qn hi wF hb hs
  refine .inr ⟨(i:Int),((5:Nat):Int),false,rfl,aG ?_⟩
  simp (disch:=omega) only[ui,DG,un,ke,cond_false]
  rfl
 | succ s ih=>
  intro i d Qn hi wF hb hs
  obtain ⟨t1,e1⟩:=Qi (a:=a) (j:=5-(s+1)) hb hs _ i rfl (by omega) wF
  obtain ⟨q1,q2⟩:=Ql (d:=d) _ i rfl wF
  rw[partialIns_succ]
  have f:ui CC a b ((i:Int),((5-(s+1):Nat):Int),eA d)=ui CC a b ((i:Int),((5-(s+1):Nat):Int),eA d):=rfl
  conv at f=>rhs;simp only[ui,DG,un];rw[ar,ag (by omega),e1];simp only[Option.bind_some,un]
  generalize scanSorted an d b i=k at*
  by_cases h1:k=b
  ·rw[ag h1]
   left
   refine aG (f.trans ?_)
   rw[cq,ag (by omega)]
  ·rw[ah h1]
   by_cases h2:b-a<50
   ·rw[ag h2]
    left
    refine aG (f.trans ?_)
    rw[cq,ah (by omega),wrap64 (by omega) (by omega),ar,ag (by omega)]
   ·rw[ah h2]
    have z1:(swp d k (k-1)).size=d.size:=size_swp ..
    have z2:(fixDown an a k (swp d k (k-1))).size=d.size:=by
     unfold fixDown
     split
     ·rw[DN,z1]
     ·exact z1
    have z3:(fixUp an b k (fixDown an a k (swp d k (k-1)))).size=d.size:=by
     unfold fixUp
     split
     ·rw[Qj _ _ _ rfl,z2]
     ·exact z2
    obtain ⟨t2,e2⟩:=DO (a:=a) (b:=b) (i:=k) (k:=5-(s+1)) (k-1) (swp d k (k-1)) (by omega) (by omega)
    obtain ⟨t4,e4⟩:=Qk (a:=a) (b:=b) (i:=k) (k:=5-(s+1)) _ (k+1) (fixDown an a k (swp d k (k-1))) rfl (by omega) (by omega) (by omega) (by omega)
    have e5:ui CC a b ((i:Int),((5-(s+1):Nat):Int),eA d)=some (.inl ((k:Int),((5-s:Nat):Int),eA (fixUp an b k (fixDown an a k (swp d k (k-1)))))):=by
     refine f.trans ?_
     rw[cq,ah (by omega),wrap64 (by omega) (by omega),ar,ah (by omega)]
     simp (disch:=omega) only[ar,bK,ag,dg,dm,Int.toNat_natCast,Option.bind_some,XE.aH,XE.aN,XE.aK,XE.re,dh,dM,dF,eS,bW,gx,wrap64,nL,Jg]
     rw[show 5-(s+1)+1=5-s by omega]
     unfold fixDown at e4⊢
     unfold fixUp
     have c1:(((k-a:Nat):Int)≥2)=(k-a≥2):=propext (by omega)
     have c2:(((b-k:Nat):Int)≥2)=(b-k≥2):=propext (by omega)
     simp only[c1,c2]
     by_cases g1:k-a≥2
     ·by_cases g2:b-k≥2
      ·simp only[g1,g2,cy,e2,Option.bind_some,un] at e4⊢
       rw[e4]
       rfl
      ·simp only[g1,g2,cy,fg,e2,Option.bind_some,un]
     ·by_cases g2:b-k≥2
      ·simp only[g1,g2,cy,fg] at e4⊢
       rw[e4]
       rfl
      ·exact absurd (show b-k≥2 by omega) g2
    rw[br e5]
    exact ih k _ (by omega) (by omega) (by omega) (by omega) (by omega)
theorem DP {a b:Nat} {d:Array XE} (dq:a<b) (hb:b≤d.size) (hs:d.size<1152921504606846976):
  CC Ic [.int .i64 (a:Int),.int .i64 (b:Int),.list ab (eA d)]=
   some [.bool (partialInsertionSort an d a b).2,.list ab (eA (partialInsertionSort an d a b).1)]:=by
 refine ajO ?_
 unfold YE
 simp (disch:=omega) only[bW,wrap64]
 rcases Qm (a:=a) (b:=b) 5 (a+1) d (bN _) (by omega) (by omega) hb hs with h|⟨x,y,z,h0,h⟩
 ·rw[show ((5-5:Nat):Int)=0 from rfl] at h
  rw[h]
  rfl
 ·rw[show ((5-5:Nat):Int)=0 from rfl] at h
  rw[h]
  unfold partialInsertionSort
  rw[h0]
  rfl
end Go.AM.SX
set_option maxRecDepth 100000
namespace Go.AM
open Go.Proofs
noncomputable abbrev uj:Code:=bU Tryz.prog (az.aT 130)
noncomputable def DQ (C:af) (data:List V) (i j k':Int) (t36:Bool) (dA:Int) {β:Type} (kr:(Int × Int × Int × Int)→Option β):Option β:=
 bif t36 then
  (C yT [.list ab data,.int .i64 i,.int .i64 dA]).bind fun r1=>
  (C yT [.list ab data,.int .i64 j,.int .i64 ((V.nth (r1.drop 1) 0).toInt)]).bind fun r2=>
  (C yT [.list ab data,.int .i64 k',.int .i64 ((V.nth (r2.drop 1) 0).toInt)]).bind fun r3=>
  kr ((V.nth r1 0).toInt,(V.nth r2 0).toInt,(V.nth r3 0).toInt,(V.nth (r3.drop 1) 0).toInt)
 else
  kr (i,j,k',dA)
noncomputable def DR (C:af) (data:List V) (l i j k':Int) (t34:Bool) (dA:Int) {β:Type} (kr:(Int × Int)→Option β):Option β:=
 bif t34 then
  DQ C data i j k' (decide ((l:Int)≥50)) dA (un fun (cQ:Int)=>un fun (Qo:Int)=>un fun (Qp:Int) (Qq:Int)=>
   (C CB [.list ab data,.int .i64 cQ,.int .i64 Qo,.int .i64 Qp,.int .i64 Qq]).bind fun r8=>
   kr ((V.nth r8 0).toInt,(V.nth (r8.drop 1) 0).toInt))
 else
  kr (j,dA)
noncomputable def YF (C:af):cj:=fun β n ds k=>
 bif Nat.beq n 591 then fM Oz [[1,0,0,0,0]] (@DQ C) ds k else
 bif Nat.beq n 559 then fM OA [[0,0]] (@DR C) ds k else
 none
abbrev YG (C:af) (b:cg):Prop:=ch Tryz.prog az C (YF C) 130 (cv Tryz.prog (az.aT 130)) (az.sin 130).bf.length b
theorem ajP (C:af):YG C (.cond 36 (aq [1,1,1,1,1,1,0,1,0,0,1,0] uj) (aq [1,1,1,1,1,1,0,1,0,0,1,1] uj)):=
 fX Oz [[1,0,0,0,0]] (@DQ C) (by kernel_rfl) (aM (bs:=[]) (by kernel_rfl) aw) (aM (bs:=[]) (by kernel_rfl) aw) (fun ds=>by kernel_rfl) (fun i β k=>by kernel_rfl) (fun β ds k=>by kernel_rfl)
theorem ajQ (C:af):YG C (.cond 34 (aq [1,1,1,1,1,1,0,1,0] uj) (aq [1,1,1,1,1,1,0,1,1] uj)):=
 fX OA [[0,0]] (@DR C) (by kernel_rfl) (aM (bs:=[.cond 36 (aq [1,1,1,1,1,1,0,1,0,0,1,0] uj) (aq [1,1,1,1,1,1,0,1,0,0,1,1] uj)]) (by kernel_rfl) (aZ (ajP C) aw)) (aM (bs:=[]) (by kernel_rfl) aw) (fun ds=>by kernel_rfl) (fun i β k=>by kernel_rfl) (fun β ds k=>by kernel_rfl)
noncomputable def Qr (C:af) (data:List V) (a b':Int):Option (List V):=
 DR C data (IntKind.wrap .i64 (b'-a)) (IntKind.wrap .i64 (a+(IntKind.wrap .i64 (1*(IntKind.wrap .i64 (Int.tdiv (IntKind.wrap .i64 (b'-a)) 4)))))) (IntKind.wrap .i64 (a+(IntKind.wrap .i64 (2*(IntKind.wrap .i64 (Int.tdiv (IntKind.wrap .i64 (b'-a)) 4)))))) (IntKind.wrap .i64 (a+(IntKind.wrap .i64 (3*(IntKind.wrap .i64 (Int.tdiv (IntKind.wrap .i64 (b'-a)) 4)))))) (decide (((IntKind.wrap .i64 (b'-a)):Int)≥8)) 0 (un fun (wG:Int) (DS:Int)=>
  bif (DS:Int)==0 then
   some [.int .i64 wG,.int .i64 1]
  else
   bif (DS:Int)==12 then
   some [.int .i64 wG,.int .i64 2]
   else
   some [.int .i64 wG,.int .i64 0])
theorem YH {data:List V} {a b':Int} {r:Option (List V)} (h:Qr CC data a b'=r):CC Cx [.list ab data,.int .i64 a,.int .i64 b']=r:=
 bn (key:=130) (L:=YF CC) (bs:=[.cond 34 (aq [1,1,1,1,1,1,0,1,0] uj) (aq [1,1,1,1,1,1,0,1,1] uj)]) (by kernel_rfl) (aZ (ajQ CC) aw) (bm (by kernel_rfl) h)
noncomputable def YI (C:af) (data:List V) (a b' c dA:Int):Option (List V):=
 (C yV [.list ab data,.int .i64 a,.int .i64 b',.int .i64 dA]).bind fun r1=>
 (C yV [.list ab data,.int .i64 ((V.nth (r1.drop 1) 0).toInt),.int .i64 c,.int .i64 ((V.nth (r1.drop 2) 0).toInt)]).bind fun r2=>
 (C yV [.list ab data,.int .i64 ((V.nth r1 0).toInt),.int .i64 ((V.nth r2 0).toInt),.int .i64 ((V.nth (r2.drop 2) 0).toInt)]).bind fun r3=>
 some [.int .i64 ((V.nth (r3.drop 1) 0).toInt),.int .i64 ((V.nth (r3.drop 2) 0).toInt)]
theorem ajR {data:List V} {a b' c dA:Int} {r:Option (List V)} (h:YI CC data a b' c dA=r):CC CB [.list ab data,.int .i64 a,.int .i64 b',.int .i64 c,.int .i64 dA]=r:=
 bn (key:=154) (L:=cS) (bs:=[]) (by kernel_rfl) aw (bm (by kernel_rfl) h)
noncomputable def Qs (C:af) (data:List V) (a b' dA:Int):Option (List V):=
 (idx data b').bind fun x1=>
 (idx data a).bind fun x2=>
 (C bu [.int .i64 ((x1.cell 0).toInt),.int .i64 ((x1.cell 1).toInt),.list ab ((x1.cell 2).toList),.int .i64 ((x2.cell 0).toInt),.int .i64 ((x2.cell 1).toInt),.list ab ((x2.cell 2).toList)]).bind fun r3=>
 bif decide ((((V.nth r3 0).toInt):Int)<0) then
  some [.int .i64 b',.int .i64 a,.int .i64 (IntKind.wrap .i64 (dA+1))]
 else
  some [.int .i64 a,.int .i64 b',.int .i64 dA]
theorem YJ {data:List V} {a b' dA:Int} {r:Option (List V)} (h:Qs CC data a b' dA=r):CC yV [.list ab data,.int .i64 a,.int .i64 b',.int .i64 dA]=r:=
 bn (key:=160) (L:=cS) (bs:=[]) (by kernel_rfl) aw (bm (by kernel_rfl) h)
noncomputable def YK (C:af) (data:List V) (a dA:Int):Option (List V):=
 (C CB [.list ab data,.int .i64 (IntKind.wrap .i64 (a-1)),.int .i64 a,.int .i64 (IntKind.wrap .i64 (a+1)),.int .i64 dA]).bind fun r1=>
 some [.int .i64 ((V.nth r1 0).toInt),.int .i64 ((V.nth (r1.drop 1) 0).toInt)]
theorem ajS {data:List V} {a dA:Int} {r:Option (List V)} (h:YK CC data a dA=r):CC yT [.list ab data,.int .i64 a,.int .i64 dA]=r:=
 bn (key:=153) (L:=cS) (bs:=[]) (by kernel_rfl) aw (bm (by kernel_rfl) h)
noncomputable abbrev zM:Code:=bU Tryz.prog (az.aT 129)
noncomputable def Jh (C:af) (a length nM eC other:Int) (t45:Bool) (ae:List V) (p8:Int) {β:Type} (kr:(Int)→Option β):Option β:=
 bif t45 then
  kr (IntKind.wrap .i64 (other-length))
 else
  kr other
noncomputable def DT (C:af) (a length nM eC:Int) (ae:List V) (p8:Int) {β:Type} (kn:(Int × (List V) × Int)→Option β) (kr:(Int × Bool × (List V) × Int)→Option β):Option β:=
 bif decide ((eC:Int)≤(IntKind.wrap .i64 ((IntKind.wrap .i64 (a+(IntKind.wrap .i64 (2*(IntKind.wrap .i64 (Int.tdiv length 4))))))+1))) then
  (C yQ [.int .u64 p8]).bind fun r2=>
  Jh C a length nM eC (IntKind.wrap .i64 (IntKind.wrap .u64 ((BitVec.ofInt (IntKind.bits .u64) ((V.nth r2 0).toInt)&&&BitVec.ofInt (IntKind.bits .u64) (IntKind.wrap .u64 (nM-1))).toNat))) (decide (((IntKind.wrap .i64 (IntKind.wrap .u64 ((BitVec.ofInt (IntKind.bits .u64) ((V.nth r2 0).toInt)&&&BitVec.ofInt (IntKind.bits .u64) (IntKind.wrap .u64 (nM-1))).toNat))):Int)≥length)) ae ((V.nth (r2.drop 1) 0).toInt) (fun (lZ:Int)=>
   bif (decide (0≤(IntKind.wrap .i64 (a+lZ))))&&(decide ((IntKind.wrap .i64 (a+lZ))<(ae.length:Int))) then
   (ae[(IntKind.wrap .i64 (a+lZ):Int).toNat]?).bind fun x4=>
   bif (decide (0≤eC))&&(decide (eC<(ae.length:Int))) then
    (ae[(eC:Int).toNat]?).bind fun x5=>
    bif (decide (0≤eC))&&(decide (eC<(ae.length:Int))) then
    (ae[(eC:Int).toNat]?).bind fun x6=>
    bif (decide (0≤(IntKind.wrap .i64 (a+lZ))))&&(decide ((IntKind.wrap .i64 (a+lZ))<((ae.set ((eC:Int).toNat) (.agg [.int .i64 ((x4.cell 0).toInt),.int .i64 ((x4.cell 1).toInt),.list ab ((x4.cell 2).toList)])).length:Int))) then
     ((ae.set ((eC:Int).toNat) (.agg [.int .i64 ((x4.cell 0).toInt),.int .i64 ((x4.cell 1).toInt),.list ab ((x4.cell 2).toList)]))[(IntKind.wrap .i64 (a+lZ):Int).toNat]?).bind fun x7=>
     kn (IntKind.wrap .i64 (eC+1),(ae.set ((eC:Int).toNat) (.agg [.int .i64 ((x4.cell 0).toInt),.int .i64 ((x4.cell 1).toInt),.list ab ((x4.cell 2).toList)])).set ((IntKind.wrap .i64 (a+lZ):Int).toNat) (.agg [.int .i64 ((x5.cell 0).toInt),.int .i64 ((x5.cell 1).toInt),.list ab ((x5.cell 2).toList)]),(V.nth (r2.drop 1) 0).toInt)
    else none
    else none
   else none
   else none)
 else
  kr (eC,decide ((eC:Int)≤(IntKind.wrap .i64 ((IntKind.wrap .i64 (a+(IntKind.wrap .i64 (2*(IntKind.wrap .i64 (Int.tdiv length 4))))))+1))),ae,p8)
noncomputable def Ji (C:af) (a length nM:Int):(Int × (List V) × Int)→Option ((Int × (List V) × Int) ⊕ (Int × Bool × (List V) × Int)):=un fun eC=>un fun ae p8=>DT C a length nM eC ae p8 (fun y=>some (.inl y)) (fun r=>some (.inr r))
noncomputable def YL (C:af):cj:=fun β n ds k=>
 bif Nat.beq n 735 then fM Ox [[1,2,3,4,0,7,8]] (@Jh C) ds k else
 bif Nat.beq n 81 then bt Oy [false,false,false,true,true,true] [[1,2,3,0,0,0,0]] (@DT C) ds k else
 none
abbrev YM (C:af) (b:cg):Prop:=ch Tryz.prog az C (YL C) 129 (cv Tryz.prog (az.aT 129)) (az.sin 129).bf.length b
theorem ajT (C:af):YM C (.cond 45 (aq [1,1,0,1,1,1,0,0,1,0,0,1,0,1,0] zM) (aq [1,1,0,1,1,1,0,0,1,0,0,1,0,1,1] zM)):=
 fX Ox [[1,2,3,4,0,7,8]] (@Jh C) (by kernel_rfl) (aM (bs:=[]) (by kernel_rfl) aw) (aM (bs:=[]) (by kernel_rfl) aw) (fun ds=>by kernel_rfl) (fun i β k=>by kernel_rfl) (fun β ds k=>by kernel_rfl)
theorem ajU (C:af):YM C (.loop (aq [1,1,0,1,1,1,0,0] zM)):=
 bw Oy [false,false,false,true,true,true] [[1,2,3,0,0,0,0]] (@DT C) (by kernel_rfl) (aM (bs:=[.cond 45 (aq [1,1,0,1,1,1,0,0,1,0,0,1,0,1,0] zM) (aq [1,1,0,1,1,1,0,0,1,0,0,1,0,1,1] zM)]) (by kernel_rfl) (aZ (ajT C) aw)) (fun ds=>by kernel_rfl) (fun i x=>by kernel_rfl) (fun i x β k=>by kernel_rfl) (fun β ds k=>by kernel_rfl)
noncomputable def YN (C:af) (a b':Int) (ae:List V):Option (List V):=
 bif decide (((IntKind.wrap .i64 (b'-a)):Int)≥8) then
  (C yP [.int .i64 (IntKind.wrap .i64 (b'-a))]).bind fun r1=>
  (Loop (Ji C a (IntKind.wrap .i64 (b'-a)) ((V.nth r1 0).toInt)) (IntKind.wrap .i64 ((IntKind.wrap .i64 (a+(IntKind.wrap .i64 (2*(IntKind.wrap .i64 (Int.tdiv (IntKind.wrap .i64 (b'-a)) 4))))))-1),ae,IntKind.wrap .u64 (IntKind.wrap .i64 (b'-a)))).bind (un fun (ajV:Int)=>un fun (oW:Bool)=>un fun (iy:List V) (ajW:Int)=>
   some [.list ab iy])
 else
  some [.list ab ae]
theorem ajX {a b':Int} {ae:List V} {r:Option (List V)} (h:YN CC a b' ae=r):CC Ia [.int .i64 a,.int .i64 b',.list ab ae]=r:=
 bn (key:=129) (L:=YL CC) (bs:=[.loop (aq [1,1,0,1,1,1,0,0] zM)]) (by kernel_rfl) (aZ (ajU CC) aw) (bm (by kernel_rfl) h)
noncomputable def Qt (C:af) (jQ:Int):Option (List V):=
 some [.int .u64 (IntKind.wrap .u64 ((BitVec.ofInt (IntKind.bits .u64) (IntKind.wrap .u64 ((BitVec.ofInt (IntKind.bits .u64) (IntKind.wrap .u64 ((BitVec.ofInt (IntKind.bits .u64) jQ ^^^ BitVec.ofInt (IntKind.bits .u64) (IntKind.wrap .u64 (jQ*2^(min (13:Int).toNat (IntKind.bits .u64))))).toNat)) ^^^ BitVec.ofInt (IntKind.bits .u64) (Int.fdiv (IntKind.wrap .u64 ((BitVec.ofInt (IntKind.bits .u64) jQ ^^^ BitVec.ofInt (IntKind.bits .u64) (IntKind.wrap .u64 (jQ*2^(min (13:Int).toNat (IntKind.bits .u64))))).toNat)) (2^(min (7:Int).toNat (IntKind.bits .u64))))).toNat)) ^^^ BitVec.ofInt (IntKind.bits .u64) (IntKind.wrap .u64 ((IntKind.wrap .u64 ((BitVec.ofInt (IntKind.bits .u64) (IntKind.wrap .u64 ((BitVec.ofInt (IntKind.bits .u64) jQ ^^^ BitVec.ofInt (IntKind.bits .u64) (IntKind.wrap .u64 (jQ*2^(min (13:Int).toNat (IntKind.bits .u64))))).toNat)) ^^^ BitVec.ofInt (IntKind.bits .u64) (Int.fdiv (IntKind.wrap .u64 ((BitVec.ofInt (IntKind.bits .u64) jQ ^^^ BitVec.ofInt (IntKind.bits .u64) (IntKind.wrap .u64 (jQ*2^(min (13:Int).toNat (IntKind.bits .u64))))).toNat)) (2^(min (7:Int).toNat (IntKind.bits .u64))))).toNat))*2^(min (17:Int).toNat (IntKind.bits .u64))))).toNat)),.int .u64 (IntKind.wrap .u64 ((BitVec.ofInt (IntKind.bits .u64) (IntKind.wrap .u64 ((BitVec.ofInt (IntKind.bits .u64) (IntKind.wrap .u64 ((BitVec.ofInt (IntKind.bits .u64) jQ ^^^ BitVec.ofInt (IntKind.bits .u64) (IntKind.wrap .u64 (jQ*2^(min (13:Int).toNat (IntKind.bits .u64))))).toNat)) ^^^ BitVec.ofInt (IntKind.bits .u64) (Int.fdiv (IntKind.wrap .u64 ((BitVec.ofInt (IntKind.bits .u64) jQ ^^^ BitVec.ofInt (IntKind.bits .u64) (IntKind.wrap .u64 (jQ*2^(min (13:Int).toNat (IntKind.bits .u64))))).toNat)) (2^(min (7:Int).toNat (IntKind.bits .u64))))).toNat)) ^^^ BitVec.ofInt (IntKind.bits .u64) (IntKind.wrap .u64 ((IntKind.wrap .u64 ((BitVec.ofInt (IntKind.bits .u64) (IntKind.wrap .u64 ((BitVec.ofInt (IntKind.bits .u64) jQ ^^^ BitVec.ofInt (IntKind.bits .u64) (IntKind.wrap .u64 (jQ*2^(min (13:Int).toNat (IntKind.bits .u64))))).toNat)) ^^^ BitVec.ofInt (IntKind.bits .u64) (Int.fdiv (IntKind.wrap .u64 ((BitVec.ofInt (IntKind.bits .u64) jQ ^^^ BitVec.ofInt (IntKind.bits .u64) (IntKind.wrap .u64 (jQ*2^(min (13:Int).toNat (IntKind.bits .u64))))).toNat)) (2^(min (7:Int).toNat (IntKind.bits .u64))))).toNat))*2^(min (17:Int).toNat (IntKind.bits .u64))))).toNat))]
theorem YO {jQ:Int} {r:Option (List V)} (h:Qt CC jQ=r):CC yQ [.int .u64 jQ]=r:=
 bn (key:=137) (L:=cS) (bs:=[]) (by kernel_rfl) aw (bm (by kernel_rfl) h)
noncomputable def Qu (C:af) (length:Int):Option (List V):=
 (C vR [.int .u64 (IntKind.wrap .u64 length)]).bind fun r1=>
 bif decide (0≤((V.nth r1 0).toInt)) then
  some [.int .u64 (IntKind.wrap .u64 (1*2^(min ((V.nth r1 0).toInt).toNat (IntKind.bits .u64))))]
 else none
theorem YP {length:Int} {r:Option (List V)} (h:Qu CC length=r):CC yP [.int .i64 length]=r:=
 bn (key:=136) (L:=cS) (bs:=[]) (by kernel_rfl) aw (bm (by kernel_rfl) h)
noncomputable def Qv (C:af) (x:Int):Option (List V):=
 (C Cu [.int .u64 x]).bind fun r1=>
 some [.int .i64 ((V.nth r1 0).toInt)]
theorem YQ {x:Int} {r:Option (List V)} (h:Qv CC x=r):CC vR [.int .u64 x]=r:=
 bn (key:=69) (L:=cS) (bs:=[]) (by kernel_rfl) aw (bm (by kernel_rfl) h)
noncomputable abbrev uk:Code:=bU Tryz.prog (az.aT 106)
noncomputable def p9 (C:af) (x n:Int) (t4:Bool) {β:Type} (kr:(Int × Int)→Option β):Option β:=
 bif t4 then
  kr (Int.fdiv x (2^(min (32:Int).toNat (IntKind.bits .u64))),32)
 else
  kr (x,n)
noncomputable def qa (C:af) (x n:Int) (t8:Bool) {β:Type} (kr:(Int × Int)→Option β):Option β:=
 bif t8 then
  kr (Int.fdiv x (2^(min (16:Int).toNat (IntKind.bits .u64))),IntKind.wrap .i64 (n+16))
 else
  kr (x,n)
noncomputable def YR (C:af):cj:=fun β n ds k=>
 bif Nat.beq n 79 then fM On [[0,0]] (@p9 C) ds k else
 bif Nat.beq n 143 then fM Oo [[0,0]] (@qa C) ds k else
 none
abbrev YS (C:af) (b:cg):Prop:=ch Tryz.prog az C (YR C) 106 (cv Tryz.prog (az.aT 106)) (az.sin 106).bf.length b
theorem ajY (C:af):YS C (.cond 4 (aq [1,0,1,0] uk) (aq [1,0,1,1] uk)):=
 fX On [[0,0]] (@p9 C) (by kernel_rfl) (aM (bs:=[]) (by kernel_rfl) aw) (aM (bs:=[]) (by kernel_rfl) aw) (fun ds=>by kernel_rfl) (fun i β k=>by kernel_rfl) (fun β ds k=>by kernel_rfl)
theorem ajZ (C:af):YS C (.cond 8 (aq [1,1,0,1,0] uk) (aq [1,1,0,1,1] uk)):=
 fX Oo [[0,0]] (@qa C) (by kernel_rfl) (aM (bs:=[]) (by kernel_rfl) aw) (aM (bs:=[]) (by kernel_rfl) aw) (fun ds=>by kernel_rfl) (fun i β k=>by kernel_rfl) (fun β ds k=>by kernel_rfl)
noncomputable def aj0 (C:af) (x:Int):Option (List V):=
 p9 C x 0 (decide ((x:Int)≥4294967296)) (un fun (gy:Int) (sO:Int)=>
  qa C gy sO (decide ((gy:Int)≥65536)) (un fun (DU:Int) (YT:Int)=>
   bif decide ((DU:Int)≥256) then
    (bif decide (0≤(IntKind.wrap .u8 (Int.fdiv DU (2^(min (8:Int).toNat (IntKind.bits .u64)))))) then (([0,1,2,2,3,3,3,3,4,4,4,4,4,4,4,4,5,5,5,5,5,5,5,5,5,5,5,5,5,5,5,5,6,6,6,6,6,6,6,6,6,6,6,6,6,6,6,6,6,6,6,6,6,6,6,6,6,6,6,6,6,6,6,6,7,7,7,7,7,7,7,7,7,7,7,7,7,7,7,7,7,7,7,7,7,7,7,7,7,7,7,7,7,7,7,7,7,7,7,7,7,7,7,7,7,7,7,7,7,7,7,7,7,7,7,7,7,7,7,7,7,7,7,7,7,7,7,7,8,8,8,8,8,8,8,8,8,8,8,8,8,8,8,8,8,8,8,8,8,8,8,8,8,8,8,8,8,8,8,8,8,8,8,8,8,8,8,8,8,8,8,8,8,8,8,8,8,8,8,8,8,8,8,8,8,8,8,8,8,8,8,8,8,8,8,8,8,8,8,8,8,8,8,8,8,8,8,8,8,8,8,8,8,8,8,8,8,8,8,8,8,8,8,8,8,8,8,8,8,8,8,8,8,8,8,8,8,8,8,8,8,8,8,8,8,8,8,8,8,8,8,8,8,8,8,8]:List UInt8)[(IntKind.wrap .u8 (Int.fdiv DU (2^(min (8:Int).toNat (IntKind.bits .u64)))):Int).toNat]?).map fun b=>V.int .u8 b.toNat else none).bind fun x5=>
    some [.int .i64 (IntKind.wrap .i64 ((IntKind.wrap .i64 (YT+8))+(IntKind.wrap .i64 x5.toInt)))]
   else
    (bif decide (0≤(IntKind.wrap .u8 DU)) then (([0,1,2,2,3,3,3,3,4,4,4,4,4,4,4,4,5,5,5,5,5,5,5,5,5,5,5,5,5,5,5,5,6,6,6,6,6,6,6,6,6,6,6,6,6,6,6,6,6,6,6,6,6,6,6,6,6,6,6,6,6,6,6,6,7,7,7,7,7,7,7,7,7,7,7,7,7,7,7,7,7,7,7,7,7,7,7,7,7,7,7,7,7,7,7,7,7,7,7,7,7,7,7,7,7,7,7,7,7,7,7,7,7,7,7,7,7,7,7,7,7,7,7,7,7,7,7,7,8,8,8,8,8,8,8,8,8,8,8,8,8,8,8,8,8,8,8,8,8,8,8,8,8,8,8,8,8,8,8,8,8,8,8,8,8,8,8,8,8,8,8,8,8,8,8,8,8,8,8,8,8,8,8,8,8,8,8,8,8,8,8,8,8,8,8,8,8,8,8,8,8,8,8,8,8,8,8,8,8,8,8,8,8,8,8,8,8,8,8,8,8,8,8,8,8,8,8,8,8,8,8,8,8,8,8,8,8,8,8,8,8,8,8,8,8,8,8,8,8,8,8,8,8,8,8,8]:List UInt8)[(IntKind.wrap .u8 DU:Int).toNat]?).map fun b=>V.int .u8 b.toNat else none).bind fun x6=>
    some [.int .i64 (IntKind.wrap .i64 (YT+(IntKind.wrap .i64 x6.toInt)))]))
theorem Jj {x:Int} {r:Option (List V)} (h:aj0 CC x=r):CC Cu [.int .u64 x]=r:=
 bn (key:=106) (L:=YR CC) (bs:=[.cond 4 (aq [1,0,1,0] uk) (aq [1,0,1,1] uk),.cond 8 (aq [1,1,0,1,0] uk) (aq [1,1,0,1,1] uk)]) (by kernel_rfl) (aZ (ajY CC) (aZ (ajZ CC) aw)) (bm (by kernel_rfl) h)
noncomputable abbrev mM:Code:=bU Tryz.prog (az.aT 95)
noncomputable def zN (C:af) (a b' ee:Int) (cC cN:Bool) (length:Int) (t39:Bool) (ae:List V) {β:Type} (kr:(Int × (List V))→Option β):Option β:=
 bif t39 then
  (C Ia [.int .i64 a,.int .i64 b',.list ab ae]).bind fun r3=>
  kr (IntKind.wrap .i64 (ee-1),(V.nth r3 0).toList)
 else
  kr (ee,ae)
noncomputable def zO (C:af) (a b' ee:Int) (cC cN:Bool) (length pivot hint:Int) (t56:Bool) (ae:List V) {β:Type} (kr:(Int × Int × (List V))→Option β):Option β:=
 bif t56 then
  (C Ib [.int .i64 a,.int .i64 b',.list ab ae]).bind fun r7=>
  kr (IntKind.wrap .i64 ((IntKind.wrap .i64 (b'-1))-(IntKind.wrap .i64 (pivot-a))),1,(V.nth r7 0).toList)
 else
  kr (pivot,hint,ae)
noncomputable def nN (C:af) (a b' ee:Int) (cC cN:Bool) (length pivot:Int) (t75:Bool) (ae:List V) {β:Type} (kr:((Bool × (List V)) ⊕ (List V))→Option β):Option β:=
 bif t75 then
  (C Ic [.int .i64 a,.int .i64 b',.list ab ae]).bind fun fQ=>
  bif (V.nth fQ 0).toBool then
  kr (.inl ((V.nth fQ 0).toBool,(V.nth (fQ.drop 1) 0).toList))
  else
  kr (.inr ((V.nth (fQ.drop 1) 0).toList))
 else
  kr (.inr ae)
noncomputable def rp (C:af) (a b' ee:Int) (cC cN:Bool) (ae:List V) {β:Type} (kn:(Int × Int × Int × Bool × Bool × (List V))→Option β) (kr:(List V)→Option β):Option β:=
 bif decide (((IntKind.wrap .i64 (b'-a)):Int)≤12) then
  (C Cv [.int .i64 a,.int .i64 b',.list ab ae]).bind fun r1=>
  kr ((V.nth r1 0).toList)
 else
  bif (ee:Int)==0 then
  (C Cw [.int .i64 a,.int .i64 b',.list ab ae]).bind fun r2=>
  kr ((V.nth r2 0).toList)
  else
  zN C a b' ee cC cN (IntKind.wrap .i64 (b'-a)) (!cC) ae (un fun (bq:Int) (qb:List V)=>
   (C Cx [.list ab qb,.int .i64 a,.int .i64 b']).bind fun r6=>
   zO C a b' bq cC cN (IntKind.wrap .i64 (b'-a)) ((V.nth r6 0).toInt) ((V.nth (r6.drop 1) 0).toInt) ((((V.nth (r6.drop 1) 0).toInt):Int)==2) qb (un fun (bY:Int)=>un fun (wH:Int) (iy:List V)=>
    bif cC then
     bif cN then
     nN C a b' bq cC cN (IntKind.wrap .i64 (b'-a)) bY ((wH:Int)==1) iy (bD (un fun (CR:Bool) (wy:List V)=>
      kr wy) (fun (l7:List V)=>
      bif decide ((a:Int)>0) then
       bif (decide (0≤(IntKind.wrap .i64 (a-1))))&&(decide ((IntKind.wrap .i64 (a-1))<(l7.length:Int))) then
       (l7[(IntKind.wrap .i64 (a-1):Int).toNat]?).bind fun db=>
       bif (decide (0≤bY))&&(decide (bY<(l7.length:Int))) then
        (l7[(bY:Int).toNat]?).bind fun da=>
        (C bu [.int .i64 ((db.cell 0).toInt),.int .i64 ((db.cell 1).toInt),.list ab ((db.cell 2).toList),.int .i64 ((da.cell 0).toInt),.int .i64 ((da.cell 1).toInt),.list ab ((da.cell 2).toList)]).bind fun cG=>
        bif !(decide ((((V.nth cG 0).toInt):Int)<0)) then
        (C vV [.int .i64 a,.int .i64 b',.int .i64 bY,.list ab l7]).bind fun nO=>
        kn ((V.nth nO 0).toInt,b',bq,cC,cN,(V.nth (nO.drop 1) 0).toList)
        else
        (C oT [.int .i64 a,.int .i64 b',.int .i64 bY,.list ab l7]).bind fun ef=>
        bif decide (((IntKind.wrap .i64 (((V.nth ef 0).toInt)-a)):Int)<(IntKind.wrap .i64 (b'-((V.nth ef 0).toInt)))) then
         (C iK [.int .i64 a,.int .i64 ((V.nth ef 0).toInt),.int .i64 bq,.list ab ((V.nth (ef.drop 2) 0).toList)]).bind fun fl=>
         kn (IntKind.wrap .i64 (((V.nth ef 0).toInt)+1),b',bq,decide (((IntKind.wrap .i64 (((V.nth ef 0).toInt)-a)):Int)≥(IntKind.wrap .i64 (Int.tdiv (IntKind.wrap .i64 (b'-a)) 8))),(V.nth (ef.drop 1) 0).toBool,(V.nth fl 0).toList)
        else
         (C iK [.int .i64 (IntKind.wrap .i64 (((V.nth ef 0).toInt)+1)),.int .i64 b',.int .i64 bq,.list ab ((V.nth (ef.drop 2) 0).toList)]).bind fun wI=>
         kn (a,(V.nth ef 0).toInt,bq,decide (((IntKind.wrap .i64 (b'-((V.nth ef 0).toInt))):Int)≥(IntKind.wrap .i64 (Int.tdiv (IntKind.wrap .i64 (b'-a)) 8))),(V.nth (ef.drop 1) 0).toBool,(V.nth wI 0).toList)
       else none
       else none
      else
       (C oT [.int .i64 a,.int .i64 b',.int .i64 bY,.list ab l7]).bind fun eT=>
       bif decide (((IntKind.wrap .i64 (((V.nth eT 0).toInt)-a)):Int)<(IntKind.wrap .i64 (b'-((V.nth eT 0).toInt)))) then
       (C iK [.int .i64 a,.int .i64 ((V.nth eT 0).toInt),.int .i64 bq,.list ab ((V.nth (eT.drop 2) 0).toList)]).bind fun Qw=>
       kn (IntKind.wrap .i64 (((V.nth eT 0).toInt)+1),b',bq,decide (((IntKind.wrap .i64 (((V.nth eT 0).toInt)-a)):Int)≥(IntKind.wrap .i64 (Int.tdiv (IntKind.wrap .i64 (b'-a)) 8))),(V.nth (eT.drop 1) 0).toBool,(V.nth Qw 0).toList)
       else
       (C iK [.int .i64 (IntKind.wrap .i64 (((V.nth eT 0).toInt)+1)),.int .i64 b',.int .i64 bq,.list ab ((V.nth (eT.drop 2) 0).toList)]).bind fun um=>
       kn (a,(V.nth eT 0).toInt,bq,decide (((IntKind.wrap .i64 (b'-((V.nth eT 0).toInt))):Int)≥(IntKind.wrap .i64 (Int.tdiv (IntKind.wrap .i64 (b'-a)) 8))),(V.nth (eT.drop 1) 0).toBool,(V.nth um 0).toList)))
     else
     nN C a b' bq cC cN (IntKind.wrap .i64 (b'-a)) bY false iy (bD (un fun (W6:Bool) (Qx:List V)=>
      kr Qx) (fun (jL:List V)=>
      bif decide ((a:Int)>0) then
       bif (decide (0≤(IntKind.wrap .i64 (a-1))))&&(decide ((IntKind.wrap .i64 (a-1))<(jL.length:Int))) then
       (jL[(IntKind.wrap .i64 (a-1):Int).toNat]?).bind fun lV=>
       bif (decide (0≤bY))&&(decide (bY<(jL.length:Int))) then
        (jL[(bY:Int).toNat]?).bind fun lW=>
        (C bu [.int .i64 ((lV.cell 0).toInt),.int .i64 ((lV.cell 1).toInt),.list ab ((lV.cell 2).toList),.int .i64 ((lW.cell 0).toInt),.int .i64 ((lW.cell 1).toInt),.list ab ((lW.cell 2).toList)]).bind fun sH=>
        bif !(decide ((((V.nth sH 0).toInt):Int)<0)) then
        (C vV [.int .i64 a,.int .i64 b',.int .i64 bY,.list ab jL]).bind fun DV=>
        kn ((V.nth DV 0).toInt,b',bq,cC,cN,(V.nth (DV.drop 1) 0).toList)
        else
        (C oT [.int .i64 a,.int .i64 b',.int .i64 bY,.list ab jL]).bind fun gd=>
        bif decide (((IntKind.wrap .i64 (((V.nth gd 0).toInt)-a)):Int)<(IntKind.wrap .i64 (b'-((V.nth gd 0).toInt)))) then
         (C iK [.int .i64 a,.int .i64 ((V.nth gd 0).toInt),.int .i64 bq,.list ab ((V.nth (gd.drop 2) 0).toList)]).bind fun zP=>
         kn (IntKind.wrap .i64 (((V.nth gd 0).toInt)+1),b',bq,decide (((IntKind.wrap .i64 (((V.nth gd 0).toInt)-a)):Int)≥(IntKind.wrap .i64 (Int.tdiv (IntKind.wrap .i64 (b'-a)) 8))),(V.nth (gd.drop 1) 0).toBool,(V.nth zP 0).toList)
        else
         (C iK [.int .i64 (IntKind.wrap .i64 (((V.nth gd 0).toInt)+1)),.int .i64 b',.int .i64 bq,.list ab ((V.nth (gd.drop 2) 0).toList)]).bind fun Qy=>
         kn (a,(V.nth gd 0).toInt,bq,decide (((IntKind.wrap .i64 (b'-((V.nth gd 0).toInt))):Int)≥(IntKind.wrap .i64 (Int.tdiv (IntKind.wrap .i64 (b'-a)) 8))),(V.nth (gd.drop 1) 0).toBool,(V.nth Qy 0).toList)
       else none
       else none
      else
       (C oT [.int .i64 a,.int .i64 b',.int .i64 bY,.list ab jL]).bind fun gf=>
       bif decide (((IntKind.wrap .i64 (((V.nth gf 0).toInt)-a)):Int)<(IntKind.wrap .i64 (b'-((V.nth gf 0).toInt)))) then
       (C iK [.int .i64 a,.int .i64 ((V.nth gf 0).toInt),.int .i64 bq,.list ab ((V.nth (gf.drop 2) 0).toList)]).bind fun Qz=>
       kn (IntKind.wrap .i64 (((V.nth gf 0).toInt)+1),b',bq,decide (((IntKind.wrap .i64 (((V.nth gf 0).toInt)-a)):Int)≥(IntKind.wrap .i64 (Int.tdiv (IntKind.wrap .i64 (b'-a)) 8))),(V.nth (gf.drop 1) 0).toBool,(V.nth Qz 0).toList)
       else
       (C iK [.int .i64 (IntKind.wrap .i64 (((V.nth gf 0).toInt)+1)),.int .i64 b',.int .i64 bq,.list ab ((V.nth (gf.drop 2) 0).toList)]).bind fun QA=>
       kn (a,(V.nth gf 0).toInt,bq,decide (((IntKind.wrap .i64 (b'-((V.nth gf 0).toInt))):Int)≥(IntKind.wrap .i64 (Int.tdiv (IntKind.wrap .i64 (b'-a)) 8))),(V.nth (gf.drop 1) 0).toBool,(V.nth QA 0).toList)))
    else
     nN C a b' bq cC cN (IntKind.wrap .i64 (b'-a)) bY false iy (bD (un fun (IJ:Bool) (QB:List V)=>
      kr QB) (fun (eB:List V)=>
      bif decide ((a:Int)>0) then
      bif (decide (0≤(IntKind.wrap .i64 (a-1))))&&(decide ((IntKind.wrap .i64 (a-1))<(eB.length:Int))) then
       (eB[(IntKind.wrap .i64 (a-1):Int).toNat]?).bind fun gb=>
       bif (decide (0≤bY))&&(decide (bY<(eB.length:Int))) then
       (eB[(bY:Int).toNat]?).bind fun lY=>
       (C bu [.int .i64 ((gb.cell 0).toInt),.int .i64 ((gb.cell 1).toInt),.list ab ((gb.cell 2).toList),.int .i64 ((lY.cell 0).toInt),.int .i64 ((lY.cell 1).toInt),.list ab ((lY.cell 2).toList)]).bind fun QC=>
       bif !(decide ((((V.nth QC 0).toInt):Int)<0)) then
        (C vV [.int .i64 a,.int .i64 b',.int .i64 bY,.list ab eB]).bind fun DW=>
        kn ((V.nth DW 0).toInt,b',bq,cC,cN,(V.nth (DW.drop 1) 0).toList)
       else
        (C oT [.int .i64 a,.int .i64 b',.int .i64 bY,.list ab eB]).bind fun gN=>
        bif decide (((IntKind.wrap .i64 (((V.nth gN 0).toInt)-a)):Int)<(IntKind.wrap .i64 (b'-((V.nth gN 0).toInt)))) then
        (C iK [.int .i64 a,.int .i64 ((V.nth gN 0).toInt),.int .i64 bq,.list ab ((V.nth (gN.drop 2) 0).toList)]).bind fun QD=>
        kn (IntKind.wrap .i64 (((V.nth gN 0).toInt)+1),b',bq,decide (((IntKind.wrap .i64 (((V.nth gN 0).toInt)-a)):Int)≥(IntKind.wrap .i64 (Int.tdiv (IntKind.wrap .i64 (b'-a)) 8))),(V.nth (gN.drop 1) 0).toBool,(V.nth QD 0).toList)
        else
        (C iK [.int .i64 (IntKind.wrap .i64 (((V.nth gN 0).toInt)+1)),.int .i64 b',.int .i64 bq,.list ab ((V.nth (gN.drop 2) 0).toList)]).bind fun DX=>
        kn (a,(V.nth gN 0).toInt,bq,decide (((IntKind.wrap .i64 (b'-((V.nth gN 0).toInt))):Int)≥(IntKind.wrap .i64 (Int.tdiv (IntKind.wrap .i64 (b'-a)) 8))),(V.nth (gN.drop 1) 0).toBool,(V.nth DX 0).toList)
       else none
      else none
      else
      (C oT [.int .i64 a,.int .i64 b',.int .i64 bY,.list ab eB]).bind fun gO=>
      bif decide (((IntKind.wrap .i64 (((V.nth gO 0).toInt)-a)):Int)<(IntKind.wrap .i64 (b'-((V.nth gO 0).toInt)))) then
       (C iK [.int .i64 a,.int .i64 ((V.nth gO 0).toInt),.int .i64 bq,.list ab ((V.nth (gO.drop 2) 0).toList)]).bind fun QE=>
       kn (IntKind.wrap .i64 (((V.nth gO 0).toInt)+1),b',bq,decide (((IntKind.wrap .i64 (((V.nth gO 0).toInt)-a)):Int)≥(IntKind.wrap .i64 (Int.tdiv (IntKind.wrap .i64 (b'-a)) 8))),(V.nth (gO.drop 1) 0).toBool,(V.nth QE 0).toList)
      else
       (C iK [.int .i64 (IntKind.wrap .i64 (((V.nth gO 0).toInt)+1)),.int .i64 b',.int .i64 bq,.list ab ((V.nth (gO.drop 2) 0).toList)]).bind fun QF=>
       kn (a,(V.nth gO 0).toInt,bq,decide (((IntKind.wrap .i64 (b'-((V.nth gO 0).toInt))):Int)≥(IntKind.wrap .i64 (Int.tdiv (IntKind.wrap .i64 (b'-a)) 8))),(V.nth (gO.drop 1) 0).toBool,(V.nth QF 0).toList)))))
noncomputable def YU (C:af):(Int × Int × Int × Bool × Bool × (List V))→Option ((Int × Int × Int × Bool × Bool × (List V)) ⊕ (List V)):=un fun a=>un fun b'=>un fun ee=>un fun cC=>un fun cN ae=>rp C a b' ee cC cN ae (fun y=>some (.inl y)) (fun r=>some (.inr r))
noncomputable def YV (C:af):cj:=fun β n ds k=>
 bif Nat.beq n 639 then fM NU [[1,2,0,4,5,6,0]] (@zN C) ds k else
 bif Nat.beq n 911 then fM NV [[1,2,3,4,5,6,0,0,0]] (@zO C) ds k else
 bif Nat.beq n 1215 then fM NW [[1,2,3,4,5,6,7,0,0],[1,2,3,4,5,6,7,0]] (@nN C) ds k else
 bif Nat.beq n 33 then bt NX [true,true,true,true,true,true] [[0]] (@rp C) ds k else
 none
abbrev Jk (C:af) (b:cg):Prop:=ch Tryz.prog az C (YV C) 95 (cv Tryz.prog (az.aT 95)) (az.sin 95).bf.length b
theorem aj1 (C:af):Jk C (.cond 39 (aq [1,1,0,0,0,1,1,1,0,1,0] mM) (aq [1,1,0,0,0,1,1,1,0,1,1] mM)):=
 fX NU [[1,2,0,4,5,6,0]] (@zN C) (by kernel_rfl) (aM (bs:=[]) (by kernel_rfl) aw) (aM (bs:=[]) (by kernel_rfl) aw) (fun ds=>by kernel_rfl) (fun i β k=>by kernel_rfl) (fun β ds k=>by kernel_rfl)
theorem aj2 (C:af):Jk C (.cond 56 (aq [1,1,0,0,0,1,1,1,1,1,0,1,0] mM) (aq [1,1,0,0,0,1,1,1,1,1,0,1,1] mM)):=
 fX NV [[1,2,3,4,5,6,0,0,0]] (@zO C) (by kernel_rfl) (aM (bs:=[]) (by kernel_rfl) aw) (aM (bs:=[]) (by kernel_rfl) aw) (fun ds=>by kernel_rfl) (fun i β k=>by kernel_rfl) (fun β ds k=>by kernel_rfl)
theorem aj3 (C:af):Jk C (.cond 75 (aq [1,1,0,0,0,1,1,1,1,1,1,0,1,0] mM) (aq [1,1,0,0,0,1,1,1,1,1,1,0,1,1] mM)):=
 fX NW [[1,2,3,4,5,6,7,0,0],[1,2,3,4,5,6,7,0]] (@nN C) (by kernel_rfl) (aM (bs:=[]) (by kernel_rfl) aw) (aM (bs:=[]) (by kernel_rfl) aw) (fun ds=>by kernel_rfl) (fun i β k=>by kernel_rfl) (fun β ds k=>by kernel_rfl)
theorem aj4 (C:af):Jk C (.loop (aq [1,1,0,0] mM)):=
 bw NX [true,true,true,true,true,true] [[0]] (@rp C) (by kernel_rfl) (aM (bs:=[.cond 39 (aq [1,1,0,0,0,1,1,1,0,1,0] mM) (aq [1,1,0,0,0,1,1,1,0,1,1] mM),.cond 56 (aq [1,1,0,0,0,1,1,1,1,1,0,1,0] mM) (aq [1,1,0,0,0,1,1,1,1,1,0,1,1] mM),.cond 75 (aq [1,1,0,0,0,1,1,1,1,1,1,0,1,0] mM) (aq [1,1,0,0,0,1,1,1,1,1,1,0,1,1] mM)]) (by kernel_rfl) (aZ (aj1 C) (aZ (aj2 C) (aZ (aj3 C) aw)))) (fun ds=>by kernel_rfl) (fun i x=>by kernel_rfl) (fun i x β k=>by kernel_rfl) (fun β ds k=>by kernel_rfl)
noncomputable def YW (C:af) (a b' ee:Int) (ae:List V):Option (List V):=
 (Loop (YU C) (a,b',ee,true,true,ae)).bind (fun (QG:List V)=>
  some [.list ab QG])
theorem aj5 {a b' ee:Int} {ae:List V} {r:Option (List V)} (h:YW CC a b' ee ae=r):CC iK [.int .i64 a,.int .i64 b',.int .i64 ee,.list ab ae]=r:=
 bn (key:=95) (L:=YV CC) (bs:=[.loop (aq [1,1,0,0] mM)]) (by kernel_rfl) (aZ (aj4 CC) aw) (bm (by kernel_rfl) h)
noncomputable def YX (C:af) (xs:List V):Option (List V):=
 (C vR [.int .u64 (IntKind.wrap .u64 (xs.length:Int))]).bind fun r1=>
 (C iK [.int .i64 0,.int .i64 (xs.length:Int),.int .i64 ((V.nth r1 0).toInt),.list ab xs]).bind fun r2=>
 some [.list ab ((V.nth r2 0).toList)]
theorem aj6 {xs:List V} {r:Option (List V)} (h:YX CC xs=r):CC yG [.list ab xs]=r:=
 bn (key:=59) (L:=cS) (bs:=[]) (by kernel_rfl) aw (bm (by kernel_rfl) h)
end Go.AM
set_option maxRecDepth 100000
set_option maxHeartbeats 4000000
namespace Go.AM.SX
open Go.Proofs Go.Sort
theorem aj7 (a b:XE):cx a b<0↔a.lt b:=Iff.rfl
theorem DY (a b:XE):(an a b=true)=(a.lt b):=by rw[kK];rfl
theorem sP (a b:XE):(an a b=false)= ¬(a.lt b):=by rw[←DY];simp
theorem nP:SWO an where
 irrefl x:=by rw[sP];exact XE.lt_irrefl x
 trans x y z:=by simp only[DY];exact XE.lt_trans
 ntrans x y z:=by simp only[sP];exact XE.ajb
def sQ:List UInt8:=([0,1,2,2,3,3,3,3,4,4,4,4,4,4,4,4,5,5,5,5,5,5,5,5,5,5,5,5,5,5,5,5,6,6,6,6,6,6,6,6,6,6,6,6,6,6,6,6,6,6,6,6,6,6,6,6,6,6,6,6,6,6,6,6,7,7,7,7,7,7,7,7,7,7,7,7,7,7,7,7,7,7,7,7,7,7,7,7,7,7,7,7,7,7,7,7,7,7,7,7,7,7,7,7,7,7,7,7,7,7,7,7,7,7,7,7,7,7,7,7,7,7,7,7,7,7,7,7,8,8,8,8,8,8,8,8,8,8,8,8,8,8,8,8,8,8,8,8,8,8,8,8,8,8,8,8,8,8,8,8,8,8,8,8,8,8,8,8,8,8,8,8,8,8,8,8,8,8,8,8,8,8,8,8,8,8,8,8,8,8,8,8,8,8,8,8,8,8,8,8,8,8,8,8,8,8,8,8,8,8,8,8,8,8,8,8,8,8,8,8,8,8,8,8,8,8,8,8,8,8,8,8,8,8,8,8,8,8,8,8,8,8,8,8,8,8,8,8,8,8,8,8,8,8,8,8]:List UInt8)
theorem QH:(List.range 256).all (fun y=>match sQ[y]? with|some b=>decide (b.toNat≤8)&&(Nat.beq y 0||(decide (1≤b.toNat)&&decide (2^(b.toNat-1)≤y)))|none=>false)=true:=by decide+kernel
theorem DZ {y:Nat} (h:y<256): ∃b,sQ[y]? =some b∧b.toNat≤8∧(0<y→1≤b.toNat∧2^(b.toNat-1)≤y):=by
 have:=gz.1 QH y (List.mem_range.2 h)
 cases hb:sQ[y]? with
 | none=>rw[hb] at this;cases this
 | some b=>
  rw[hb] at this
  simp only[aU,td,dX] at this
  refine ⟨b,rfl,this.1,fun hy=> ?_⟩
  rcases this.2 with h2|h2
  ·have:=xb h2;omega
  ·exact h2
theorem wJ {y t k:Nat} (h:2^(t-1)≤y/2^k) (ht:1≤t):2^(t+k-1)≤y:=by
 have e:t+k-1=(t-1)+k:=by omega
 rw[e,Nat.pow_add]
 exact lA (eh _ h) (Nat.div_mul_le_self _ _)
noncomputable def nQ (y n:Int):Option (List V):=
(bif decide ((y:Int)≥256) then
    (bif decide (0≤(IntKind.wrap .u8 (Int.fdiv y (2^(min (8:Int).toNat (IntKind.bits .u64)))))) then (([0,1,2,2,3,3,3,3,4,4,4,4,4,4,4,4,5,5,5,5,5,5,5,5,5,5,5,5,5,5,5,5,6,6,6,6,6,6,6,6,6,6,6,6,6,6,6,6,6,6,6,6,6,6,6,6,6,6,6,6,6,6,6,6,7,7,7,7,7,7,7,7,7,7,7,7,7,7,7,7,7,7,7,7,7,7,7,7,7,7,7,7,7,7,7,7,7,7,7,7,7,7,7,7,7,7,7,7,7,7,7,7,7,7,7,7,7,7,7,7,7,7,7,7,7,7,7,7,8,8,8,8,8,8,8,8,8,8,8,8,8,8,8,8,8,8,8,8,8,8,8,8,8,8,8,8,8,8,8,8,8,8,8,8,8,8,8,8,8,8,8,8,8,8,8,8,8,8,8,8,8,8,8,8,8,8,8,8,8,8,8,8,8,8,8,8,8,8,8,8,8,8,8,8,8,8,8,8,8,8,8,8,8,8,8,8,8,8,8,8,8,8,8,8,8,8,8,8,8,8,8,8,8,8,8,8,8,8,8,8,8,8,8,8,8,8,8,8,8,8,8,8,8,8,8,8]:List UInt8)[(IntKind.wrap .u8 (Int.fdiv y (2^(min (8:Int).toNat (IntKind.bits .u64)))):Int).toNat]?).map fun b=>V.int .u8 b.toNat else none).bind fun x5=>
    some [V.int .i64 (IntKind.wrap .i64 ((IntKind.wrap .i64 (n+8))+(IntKind.wrap .i64 x5.toInt)))]
   else
    (bif decide (0≤(IntKind.wrap .u8 y)) then (([0,1,2,2,3,3,3,3,4,4,4,4,4,4,4,4,5,5,5,5,5,5,5,5,5,5,5,5,5,5,5,5,6,6,6,6,6,6,6,6,6,6,6,6,6,6,6,6,6,6,6,6,6,6,6,6,6,6,6,6,6,6,6,6,7,7,7,7,7,7,7,7,7,7,7,7,7,7,7,7,7,7,7,7,7,7,7,7,7,7,7,7,7,7,7,7,7,7,7,7,7,7,7,7,7,7,7,7,7,7,7,7,7,7,7,7,7,7,7,7,7,7,7,7,7,7,7,7,8,8,8,8,8,8,8,8,8,8,8,8,8,8,8,8,8,8,8,8,8,8,8,8,8,8,8,8,8,8,8,8,8,8,8,8,8,8,8,8,8,8,8,8,8,8,8,8,8,8,8,8,8,8,8,8,8,8,8,8,8,8,8,8,8,8,8,8,8,8,8,8,8,8,8,8,8,8,8,8,8,8,8,8,8,8,8,8,8,8,8,8,8,8,8,8,8,8,8,8,8,8,8,8,8,8,8,8,8,8,8,8,8,8,8,8,8,8,8,8,8,8,8,8,8,8,8,8]:List UInt8)[(IntKind.wrap .u8 y:Int).toNat]?).map fun b=>V.int .u8 b.toNat else none).bind fun x6=>
    some [V.int .i64 (IntKind.wrap .i64 (n+(IntKind.wrap .i64 x6.toInt)))])
theorem QI {x:Nat} (h:x<2^64): ∃L:Nat,CC Cu [.int .u64 (x:Int)]=some [.int .i64 (L:Int)]∧L≤64∧(0<x→1≤L∧2^(L-1)≤x):=by
 have last: ∀y n:Nat,y<65536→n≤48→∃t:Nat,
   nQ (y:Int) (n:Int)=some [V.int .i64 ((n+t:Nat):Int)]∧t≤16∧(0<y→1≤t∧2^(t-1)≤y):=by
  intro y n hy hn
  unfold nQ
  rw[show ([0,1,2,2,3,3,3,3,4,4,4,4,4,4,4,4,5,5,5,5,5,5,5,5,5,5,5,5,5,5,5,5,6,6,6,6,6,6,6,6,6,6,6,6,6,6,6,6,6,6,6,6,6,6,6,6,6,6,6,6,6,6,6,6,7,7,7,7,7,7,7,7,7,7,7,7,7,7,7,7,7,7,7,7,7,7,7,7,7,7,7,7,7,7,7,7,7,7,7,7,7,7,7,7,7,7,7,7,7,7,7,7,7,7,7,7,7,7,7,7,7,7,7,7,7,7,7,7,8,8,8,8,8,8,8,8,8,8,8,8,8,8,8,8,8,8,8,8,8,8,8,8,8,8,8,8,8,8,8,8,8,8,8,8,8,8,8,8,8,8,8,8,8,8,8,8,8,8,8,8,8,8,8,8,8,8,8,8,8,8,8,8,8,8,8,8,8,8,8,8,8,8,8,8,8,8,8,8,8,8,8,8,8,8,8,8,8,8,8,8,8,8,8,8,8,8,8,8,8,8,8,8,8,8,8,8,8,8,8,8,8,8,8,8,8,8,8,8,8,8,8,8,8,8,8,8]:List UInt8)=sQ from rfl]
  by_cases h1:y≥256
  ·have e:Int.fdiv (y:Int) (2^(min (8:Int).toNat (IntKind.bits .u64)))=((y/2^8:Nat):Int):=y6 (m:=8) (by omega)
   obtain ⟨b,hb,b1,b2⟩:=DZ (y:=y/2^8) (by omega)
   refine ⟨b.toNat+8,?_,by omega,fun _=> ?_⟩
   ·rw[e,ar,ag (by omega),HI (by omega) (by omega),ar,ag (by omega),Int.toNat_natCast,hb]
    simp only[Option.map_some,Option.bind_some,V.toInt_int]
    simp (disch:=omega) only[wrap64]
    congr 3
    omega
   ·obtain ⟨b3,b4⟩:=b2 (by omega)
    exact ⟨by omega,wJ b4 b3⟩
  ·obtain ⟨b,hb,b1,b2⟩:=DZ (y:=y) (by omega)
   refine ⟨b.toNat,?_,by omega,b2⟩
   rw[ar,ah (by omega),HI (by omega) (by omega),ar,ag (by omega),Int.toNat_natCast,hb]
   simp (disch:=omega) only[Option.map_some,Option.bind_some,V.toInt_int,wrap64]
   congr 3
 have mid: ∀y n:Nat,y<4294967296→n≤32→∃t:Nat,∀F:Int→Int→Option (List V),
   (∀y n:Nat,y<65536→n≤48→∃t:Nat,F (y:Int) (n:Int)=some [V.int .i64 ((n+t:Nat):Int)]∧t≤16∧(0<y→1≤t∧2^(t-1)≤y))→
   ∃t:Nat,qa CC (y:Int) (n:Int) (decide (((y:Int):Int)≥65536)) (un F)=some [V.int .i64 ((n+t:Nat):Int)]∧t≤32∧(0<y→1≤t∧2^(t-1)≤y):=by
  intro y n hy hn
  refine ⟨0,fun F hF=> ?_⟩
  unfold qa
  by_cases h1:y≥65536
  ·have e:Int.fdiv (y:Int) (2^(min (16:Int).toNat (IntKind.bits .u64)))=((y/2^16:Nat):Int):=y6 (m:=16) (by omega)
   rw[ar,ag (by omega),e,wrap64 (by omega) (by omega)]
   obtain ⟨t,h2,h3,h4⟩:=hF (y/2^16) (n+16) (by omega) (by omega)
   refine ⟨t+16,?_,by omega,fun _=> ?_⟩
   ·rw[show ((n:Int)+16)=((n+16:Nat):Int) by omega]
    simp only[un]
    rw[h2]
    congr 3
    omega
   ·obtain ⟨b3,b4⟩:=h4 (by omega)
    exact ⟨by omega,wJ b4 b3⟩
  ·rw[ar,ah (by omega)]
   obtain ⟨t,h2,h3,h4⟩:=hF y n (by omega) (by omega)
   exact ⟨t,h2,by omega,h4⟩
 by_cases h1:x≥4294967296
 ·have e:Int.fdiv (x:Int) (2^(min (32:Int).toNat (IntKind.bits .u64)))=((x/2^32:Nat):Int):=y6 (m:=32) (by omega)
  obtain ⟨_,hm⟩:=mid (x/2^32) 32 (by omega) (by omega)
  obtain ⟨t,h2,h3,h4⟩:=hm nQ last
  refine ⟨32+t,Jj ?_,by omega,fun _=> ?_⟩
  ·show p9 CC (x:Int) 0 (decide (((x:Int):Int)≥4294967296)) (un fun (gy:Int) (sO:Int)=>qa CC gy sO (decide ((gy:Int)≥65536)) (un nQ))=_
   unfold p9
   rw[ar,ag (by omega),e]
   exact h2
  ·obtain ⟨b3,b4⟩:=h4 (by omega)
   rw[Nat.add_comm 32 t]
   exact ⟨by omega,wJ b4 b3⟩
 ·obtain ⟨_,hm⟩:=mid x 0 (by omega) (by omega)
  obtain ⟨t,h2,h3,h4⟩:=hm nQ last
  refine ⟨t,Jj ?_,by omega,h4⟩
  show p9 CC (x:Int) 0 (decide (((x:Int):Int)≥4294967296)) (un fun (gy:Int) (sO:Int)=>qa CC gy sO (decide ((gy:Int)≥65536)) (un nQ))=_
  unfold p9
  rw[ar,ah (by omega)]
  rw[hO] at h2
  exact h2
theorem D0 {x:Nat} (h:x<2^64): ∃L:Nat,CC vR [.int .u64 (x:Int)]=some [.int .i64 (L:Int)]∧L≤64∧(0<x→1≤L∧2^(L-1)≤x):=by
 obtain ⟨L,h1,h2⟩:=QI h
 refine ⟨L,YQ ?_,h2⟩
 unfold Qv
 rw[h1]
 rfl
theorem QJ {x:Nat} (h0:0<x) (h:x<1152921504606846976): ∃M:Nat,CC yP [.int .i64 (x:Int)]=some [.int .u64 (M:Int)]∧1≤M∧M≤2*x:=by
 obtain ⟨L,h1,h2,h3⟩:=D0 (x:=x) (by omega)
 obtain ⟨h4,h5⟩:=h3 h0
 have e:2^L=2*2^(L-1):=by
  obtain ⟨k,rfl⟩: ∃k,L=k+1:=⟨L-1,by omega⟩
  rw[Nat.pow_succ];simp only[uE];omega
 have hL:L<64:=by
  by_cases hx:L<64
  ·exact hx
  ·have:2^63≤2^(L-1):=Nat.pow_le_pow_right (by omega) (by omega)
   omega
 refine ⟨2^L,YP ?_,Nat.pos_of_ne_zero (by simp),by omega⟩
 unfold Qu
 rw[sB (A:=x) (by omega),h1]
 simp only[Option.bind_some,V.aD,V.toInt_int]
 rw[ar,ag (by omega),Int.toNat_natCast,IH hL]
theorem QK (r:Int): ∃R:Nat,CC yQ [.int .u64 r]=some [.int .u64 (R:Int),.int .u64 (R:Int)]∧R<2^64:=by
 have h: ∀n:Int,∃R:Nat,IntKind.wrap .u64 n=(R:Int)∧R<2^64:=fun n=>⟨(IntKind.wrap .u64 n).toNat,by rw[wrap_u64];omega,by rw[wrap_u64];omega⟩
 obtain ⟨R,h1,h2⟩:=h _
 exact ⟨R,YO (by unfold Qt;rw[h1]),h2⟩
theorem sR {d:Array XE} {i:Nat} (h:i<d.size):idx (eA d) (i:Int)=some (d[i]!).enc:=by rw[yo,dm h]
theorem wK {d:Array XE} {a b:Nat} {s:Int} (ha:a<d.size) (hb:b<d.size): ∃(x y:Nat) (s':Int),CC yV [.list ab (eA d),.int .i64 (a:Int),.int .i64 (b:Int),.int .i64 s]=some [.int .i64 (x:Int),.int .i64 (y:Int),.int .i64 s']∧(x=a∧y=b∨x=b∧y=a):=by
 by_cases h:cx d[b]! d[a]! <0
 ·refine ⟨b,a,_,YJ (by unfold Qs;rw[sR hb,sR ha];simp only[Option.bind_some,XE.aH,XE.aN,XE.aK,iN,V.aD,V.toInt_int];rw[ar,ag h]),.inr ⟨rfl,rfl⟩⟩
 ·refine ⟨a,b,_,YJ (by unfold Qs;rw[sR hb,sR ha];simp only[Option.bind_some,XE.aH,XE.aN,XE.aK,iN,V.aD,V.toInt_int];rw[ar,ah h]),.inl ⟨rfl,rfl⟩⟩
theorem wL {d:Array XE} {a b c:Nat} {s:Int} (ha:a<d.size) (hb:b<d.size) (hc:c<d.size): ∃(m:Nat) (s':Int),CC CB [.list ab (eA d),.int .i64 (a:Int),.int .i64 (b:Int),.int .i64 (c:Int),.int .i64 s]=some [.int .i64 (m:Int),.int .i64 s']∧(m=a∨m=b∨m=c):=by
 obtain ⟨x1,y1,s1,e1,o1⟩:=wK (s:=s) ha hb
 obtain ⟨x2,y2,s2,e2,o2⟩:=wK (d:=d) (a:=y1) (b:=c) (s:=s1) (by omega) hc
 obtain ⟨x3,y3,s3,e3,o3⟩:=wK (d:=d) (a:=x1) (b:=x2) (s:=s2) (by omega) (by omega)
 refine ⟨y3,s3,ajR ?_,by omega⟩
 unfold YI
 rw[e1]
 simp only[Option.bind_some,V.aD,V.j8,V.toInt_int,fm,eM]
 rw[e2]
 simp only[Option.bind_some,V.aD,V.j8,V.toInt_int,fm,eM]
 rw[e3]
 rfl
theorem wM {d:Array XE} {a:Nat} {s:Int} (h1:1≤a) (ha:a+1<d.size) (hs:d.size<1152921504606846976): ∃(m:Nat) (s':Int),CC yT [.list ab (eA d),.int .i64 (a:Int),.int .i64 s]=some [.int .i64 (m:Int),.int .i64 s']∧a≤m+1∧m≤a+1:=by
 obtain ⟨m,s',e,o⟩:=wL (d:=d) (a:=a-1) (b:=a) (c:=a+1) (s:=s) (by omega) (by omega) (by omega)
 refine ⟨m,s',ajS ?_,by omega,by omega⟩
 unfold YK
 simp (disch:=omega) only[eS,bW,wrap64]
 rw[e]
 rfl
theorem wO (n:Nat):Int.tdiv (n:Int) 4=((n/4:Nat):Int):=by
 have:=divC n 4
 exact this
theorem mulC (k n:Nat):((k:Nat):Int)*(n:Int)=((k*n:Nat):Int):=(Int.natCast_mul k n).symm
theorem QL {d:Array XE} {a b:Nat} (dq:a+12<b) (hb:b≤d.size) (hs:d.size<1152921504606846976): ∃(p:Nat) (h:Int),CC Cx [.list ab (eA d),.int .i64 (a:Int),.int .i64 (b:Int)]=some [.int .i64 (p:Int),.int .i64 h]∧a≤p∧p<b:=by
 have fin: ∀(p:Nat) (s:Int),∃h:Int,(bif (s:Int)==0 then some [V.int .i64 (p:Int),V.int .i64 1] else bif (s:Int)==12 then some [V.int .i64 (p:Int),V.int .i64 2] else some [V.int .i64 (p:Int),V.int .i64 0])=some [V.int .i64 (p:Int),V.int .i64 h]:=by
  intro p s
  rw[cq]
  split
  ·exact ⟨1,rfl⟩
  ·rw[cq]
   split
   ·exact ⟨2,rfl⟩
   ·exact ⟨0,rfl⟩
 have e1:IntKind.wrap .i64 ((b:Int)-(a:Int))=((b-a:Nat):Int):=by rw[gx (by omega),wrap64 (by omega) (by omega)]
 have e2:IntKind.wrap .i64 (Int.tdiv ((b-a:Nat):Int) 4)=(((b-a)/4:Nat):Int):=by rw[wO,wrap64 (by omega) (by omega)]
 have e3: ∀k:Nat,k≤3→IntKind.wrap .i64 ((a:Int)+IntKind.wrap .i64 ((k:Int)*(((b-a)/4:Nat):Int)))=((a+k*((b-a)/4):Nat):Int):=by
  intro k hk
  have oO:k*((b-a)/4)≤3*((b-a)/4):=eh _ hk
  simp (disch:=omega) only[mulC,wrap64,di]
 have wP:=e3 1 (by omega)
 have kL:=e3 2 (by omega)
 have wQ:=e3 3 (by omega)
 rw[show ((1:Nat):Int)=1 from rfl] at wP
 rw[show ((2:Nat):Int)=2 from rfl] at kL
 rw[show ((3:Nat):Int)=3 from rfl] at wQ
 by_cases h50:b-a≥50
 ·obtain ⟨m1,s1,q1,r1⟩:=wM (d:=d) (a:=a+1*((b-a)/4)) (s:=0) (by omega) (by omega) hs
  obtain ⟨m2,s2,q2,r2⟩:=wM (d:=d) (a:=a+2*((b-a)/4)) (s:=s1) (by omega) (by omega) hs
  obtain ⟨m3,s3,q3,r3⟩:=wM (d:=d) (a:=a+3*((b-a)/4)) (s:=s2) (by omega) (by omega) hs
  obtain ⟨m,s,q,r⟩:=wL (d:=d) (a:=m1) (b:=m2) (c:=m3) (s:=s3) (by omega) (by omega) (by omega)
  obtain ⟨h,hf⟩:=fin m s
  refine ⟨m,h,YH ?_,by omega,by omega⟩
  unfold Qr DR DQ
  rw[e1,e2,wP,kL,wQ,hD (by omega),cond_true,hD (by omega),cond_true,q1]
  simp only[Option.bind_some,V.aD,V.j8,V.toInt_int,fm,eM]
  rw[q2]
  simp only[Option.bind_some,V.aD,V.j8,V.toInt_int,fm,eM]
  rw[q3]
  simp only[Option.bind_some,V.aD,V.j8,V.toInt_int,fm,eM,un]
  rw[q]
  exact hf
 ·obtain ⟨m,s,q,r⟩:=wL (d:=d) (a:=a+1*((b-a)/4)) (b:=a+2*((b-a)/4)) (c:=a+3*((b-a)/4)) (s:=0) (by omega) (by omega) (by omega)
  obtain ⟨h,hf⟩:=fin m s
  refine ⟨m,h,YH ?_,by omega,by omega⟩
  unfold Qr DR DQ
  rw[e1,e2,wP,kL,wQ,hD (by omega),cond_true,ke (by omega),cond_false]
  simp only[un]
  rw[q]
  exact hf
theorem QM {a b M:Nat} (QN:1≤M) (hM:M≤2*(b-a)) (h8:8≤b-a) (hB:b<1152921504606846976): ∀(n i:Nat) (d:Array XE) (r:Int),a+2*((b-a)/4)+2-i=n→a≤i→b≤d.size→d.size<1152921504606846976→
  ∃x y z R,Loop (Ji CC a (b-a:Nat) M) ((i:Int),eA d,r)=some (x,y,eA R,z)∧PermIn a b d R:=by
 have e2:IntKind.wrap .i64 (Int.tdiv ((b-a:Nat):Int) 4)=(((b-a)/4:Nat):Int):=by rw[wO,wrap64 (by omega) (by omega)]
 have kL:IntKind.wrap .i64 ((a:Int)+IntKind.wrap .i64 (2*(((b-a)/4:Nat):Int)))=((a+2*((b-a)/4):Nat):Int):=by
  have:=mulC 2 ((b-a)/4)
  rw[show ((2:Nat):Int)=2 from rfl] at this
  rw[this]
  simp (disch:=omega) only[wrap64,di]
 intro n
 induction n with
 | zero=>
  intro i d r hn hi hb hs
  refine ⟨(i:Int),false,r,d,aG ?_,permIn_refl _ _ _⟩
  simp only[Ji,DT,un]
  rw[e2,kL,bW,wrap64 (by omega) (by omega),ke (by omega),cond_false]
 | succ n ih=>
  intro i d r hn hi hb hs
  obtain ⟨R1,q1,q2⟩:=QK r
  obtain ⟨o,ho,nf⟩: ∃o:Nat,(o=if R1&&&(M-1)≥b-a then (R1&&&(M-1))-(b-a) else R1&&&(M-1))∧o<b-a:=by
   refine ⟨_,rfl,?_⟩
   have:R1&&&(M-1)≤M-1:=Nat.and_le_right
   split<;>omega
  have hand:R1&&&(M-1)≤M-1:=Nat.and_le_right
  have hP:=swp_permIn (α:=XE) d a b i (a+o) hi (by omega) (by omega) (by omega) hb
  obtain ⟨x,y,z,R,e,hR⟩:=ih (i+1) (swp d i (a+o)) (R1:Int) (by omega) (by omega) (by rw[size_swp];exact hb) (by rw[size_swp];exact hs)
  refine ⟨x,y,z,R,(br ?_).trans e,permIn_trans _ _ _ a b hP hR⟩
  simp only[Ji,DT,un]
  rw[e2,kL,bW,wrap64 (x:=((a+2*((b-a)/4)+1:Nat):Int)) (by omega) (by omega),hD (by omega),cond_true,q1]
  simp only[Option.bind_some,V.aD,V.j8,V.toInt_int,fm,eM]
  have e5:IntKind.wrap .u64 ((M:Int)-1)=((M-1:Nat):Int):=by rw[eS QN,sB (by omega)]
  rw[e5,u64_and q2 (by omega),wrap64 (x:=((R1&&&(M-1):Nat):Int)) (by omega) (by omega)]
  have fin: ∀k:Int,k=(o:Int)→(bif (decide (0≤(IntKind.wrap .i64 ((a:Int)+k))))&&(decide ((IntKind.wrap .i64 ((a:Int)+k))<((eA d).length:Int))) then
   ((eA d)[(IntKind.wrap .i64 ((a:Int)+k):Int).toNat]?).bind fun x4=>
   bif (decide (0≤(i:Int)))&&(decide ((i:Int)<((eA d).length:Int))) then
    ((eA d)[((i:Int):Int).toNat]?).bind fun x5=>
    bif (decide (0≤(i:Int)))&&(decide ((i:Int)<((eA d).length:Int))) then
    ((eA d)[((i:Int):Int).toNat]?).bind fun x6=>
    bif (decide (0≤(IntKind.wrap .i64 ((a:Int)+k))))&&(decide ((IntKind.wrap .i64 ((a:Int)+k))<(((eA d).set (((i:Int):Int).toNat) (.agg [.int .i64 ((x4.cell 0).toInt),.int .i64 ((x4.cell 1).toInt),.list ab ((x4.cell 2).toList)])).length:Int))) then
     (((eA d).set (((i:Int):Int).toNat) (.agg [.int .i64 ((x4.cell 0).toInt),.int .i64 ((x4.cell 1).toInt),.list ab ((x4.cell 2).toList)]))[(IntKind.wrap .i64 ((a:Int)+k):Int).toNat]?).bind fun x7=>
     some (.inl (IntKind.wrap .i64 ((i:Int)+1),((eA d).set (((i:Int):Int).toNat) (.agg [.int .i64 ((x4.cell 0).toInt),.int .i64 ((x4.cell 1).toInt),.list ab ((x4.cell 2).toList)])).set ((IntKind.wrap .i64 ((a:Int)+k):Int).toNat) (.agg [.int .i64 ((x5.cell 0).toInt),.int .i64 ((x5.cell 1).toInt),.list ab ((x5.cell 2).toList)]),(R1:Int)))
    else none
    else none
   else none
   else none:Option ((Int × List V × Int) ⊕ (Int × Bool × List V × Int)))=some (.inl (((i+1:Nat):Int),eA (swp d i (a+o)),(R1:Int))):=by
   intro k hk
   subst hk
   simp (disch:=omega) only[ar,bK,dH,ag,ah,wrap64,bW,di,Int.toNat_natCast,Option.bind_some,dg,dm,XE.aH,XE.aN,XE.aK,XE.re,dh,dM,dF,iN,V.aD,V.toInt_int,cond_true,cond_false]
   rfl
  unfold Jh
  by_cases h:R1&&&(M-1)≥b-a
  ·rw[ag h] at ho
   rw[hD (by omega),cond_true]
   exact fin _ (by rw[gx (by omega),wrap64 (by omega) (by omega)];omega)
  ·rw[ah h] at ho
   rw[ke (by omega),cond_false]
   exact fin _ (by omega)
theorem QO {a b:Nat} {d:Array XE} (dq:a+12<b) (hb:b≤d.size) (hs:d.size<1152921504606846976): ∃R,CC Ia [.int .i64 (a:Int),.int .i64 (b:Int),.list ab (eA d)]=some [.list ab (eA R)]∧PermIn a b d R:=by
 obtain ⟨M,q1,q2,q3⟩:=QJ (x:=b-a) (by omega) (by omega)
 have e1:IntKind.wrap .i64 ((b:Int)-(a:Int))=((b-a:Nat):Int):=by rw[gx (by omega),wrap64 (by omega) (by omega)]
 have e2:IntKind.wrap .i64 (Int.tdiv ((b-a:Nat):Int) 4)=(((b-a)/4:Nat):Int):=by rw[wO,wrap64 (by omega) (by omega)]
 have kL:IntKind.wrap .i64 ((a:Int)+IntKind.wrap .i64 (2*(((b-a)/4:Nat):Int)))=((a+2*((b-a)/4):Nat):Int):=by
  have:=mulC 2 ((b-a)/4)
  rw[show ((2:Nat):Int)=2 from rfl] at this
  rw[this]
  simp (disch:=omega) only[wrap64,di]
 obtain ⟨x,y,z,R,e,hR⟩:=QM (a:=a) (b:=b) (M:=M) q2 q3 (by omega) (by omega) _ (a+2*((b-a)/4)-1) d (IntKind.wrap .u64 ((b-a:Nat):Int)) rfl (by omega) hb hs
 refine ⟨R,ajX ?_,hR⟩
 unfold YN
 rw[e1,ar,ag (by omega),q1]
 simp only[Option.bind_some,V.aD,V.toInt_int]
 rw[e2,kL,eS (by omega),wrap64 (x:=((a+2*((b-a)/4)-1:Nat):Int)) (by omega) (by omega),e]
 rfl
noncomputable def kM (C:af) (a b':Int) (cC cN:Bool) (bq bY:Int) (ga:List V) {β:Type} (kn:(Int × Int × Int × Bool × Bool × (List V))→Option β):Option β:=
      bif decide ((a:Int)>0) then
       bif (decide (0≤(IntKind.wrap .i64 (a-1))))&&(decide ((IntKind.wrap .i64 (a-1))<(ga.length:Int))) then
       (ga[(IntKind.wrap .i64 (a-1):Int).toNat]?).bind fun dS=>
       bif (decide (0≤bY))&&(decide (bY<(ga.length:Int))) then
        (ga[(bY:Int).toNat]?).bind fun iz=>
        (C bu [.int .i64 ((dS.cell 0).toInt),.int .i64 ((dS.cell 1).toInt),.list ab ((dS.cell 2).toList),.int .i64 ((iz.cell 0).toInt),.int .i64 ((iz.cell 1).toInt),.list ab ((iz.cell 2).toList)]).bind fun pZ=>
        bif !(decide ((((V.nth pZ 0).toInt):Int)<0)) then
        (C vV [.int .i64 a,.int .i64 b',.int .i64 bY,.list ab ga]).bind fun D1=>
        kn ((V.nth D1 0).toInt,b',bq,cC,cN,(V.nth (D1.drop 1) 0).toList)
        else
        (C oT [.int .i64 a,.int .i64 b',.int .i64 bY,.list ab ga]).bind fun cG=>
        bif decide (((IntKind.wrap .i64 (((V.nth cG 0).toInt)-a)):Int)<(IntKind.wrap .i64 (b'-((V.nth cG 0).toInt)))) then
         (C iK [.int .i64 a,.int .i64 ((V.nth cG 0).toInt),.int .i64 bq,.list ab ((V.nth (cG.drop 2) 0).toList)]).bind fun nO=>
         kn (IntKind.wrap .i64 (((V.nth cG 0).toInt)+1),b',bq,decide (((IntKind.wrap .i64 (((V.nth cG 0).toInt)-a)):Int)≥(IntKind.wrap .i64 (Int.tdiv (IntKind.wrap .i64 (b'-a)) 8))),(V.nth (cG.drop 1) 0).toBool,(V.nth nO 0).toList)
        else
         (C iK [.int .i64 (IntKind.wrap .i64 (((V.nth cG 0).toInt)+1)),.int .i64 b',.int .i64 bq,.list ab ((V.nth (cG.drop 2) 0).toList)]).bind fun ef=>
         kn (a,(V.nth cG 0).toInt,bq,decide (((IntKind.wrap .i64 (b'-((V.nth cG 0).toInt))):Int)≥(IntKind.wrap .i64 (Int.tdiv (IntKind.wrap .i64 (b'-a)) 8))),(V.nth (cG.drop 1) 0).toBool,(V.nth ef 0).toList)
       else none
       else none
      else
       (C oT [.int .i64 a,.int .i64 b',.int .i64 bY,.list ab ga]).bind fun fl=>
       bif decide (((IntKind.wrap .i64 (((V.nth fl 0).toInt)-a)):Int)<(IntKind.wrap .i64 (b'-((V.nth fl 0).toInt)))) then
       (C iK [.int .i64 a,.int .i64 ((V.nth fl 0).toInt),.int .i64 bq,.list ab ((V.nth (fl.drop 2) 0).toList)]).bind fun wI=>
       kn (IntKind.wrap .i64 (((V.nth fl 0).toInt)+1),b',bq,decide (((IntKind.wrap .i64 (((V.nth fl 0).toInt)-a)):Int)≥(IntKind.wrap .i64 (Int.tdiv (IntKind.wrap .i64 (b'-a)) 8))),(V.nth (fl.drop 1) 0).toBool,(V.nth wI 0).toList)
       else
       (C iK [.int .i64 (IntKind.wrap .i64 (((V.nth fl 0).toInt)+1)),.int .i64 b',.int .i64 bq,.list ab ((V.nth (fl.drop 2) 0).toList)]).bind fun eT=>
       kn (a,(V.nth fl 0).toInt,bq,decide (((IntKind.wrap .i64 (b'-((V.nth fl 0).toInt))):Int)≥(IntKind.wrap .i64 (Int.tdiv (IntKind.wrap .i64 (b'-a)) 8))),(V.nth (fl.drop 1) 0).toBool,(V.nth eT 0).toList)
theorem sS (C:af) (a b' ee:Int) (cC cN:Bool) (ae:List V) {β:Type} (kn:(Int × Int × Int × Bool × Bool × (List V))→Option β) (kr:(List V)→Option β):
  rp C a b' ee cC cN ae kn kr=
 bif decide (((IntKind.wrap .i64 (b'-a)):Int)≤12) then
  (C Cv [.int .i64 a,.int .i64 b',.list ab ae]).bind fun r1=>
  kr ((V.nth r1 0).toList)
 else
  bif (ee:Int)==0 then
  (C Cw [.int .i64 a,.int .i64 b',.list ab ae]).bind fun r2=>
  kr ((V.nth r2 0).toList)
  else
  zN C a b' ee cC cN (IntKind.wrap .i64 (b'-a)) (!cC) ae (un fun (bq:Int) (qb:List V)=>
   (C Cx [.list ab qb,.int .i64 a,.int .i64 b']).bind fun r6=>
   zO C a b' bq cC cN (IntKind.wrap .i64 (b'-a)) ((V.nth r6 0).toInt) ((V.nth (r6.drop 1) 0).toInt) ((((V.nth (r6.drop 1) 0).toInt):Int)==2) qb (un fun (bY:Int)=>un fun (wH:Int) (iy:List V)=>
    bif cC then
     bif cN then
     nN C a b' bq cC cN (IntKind.wrap .i64 (b'-a)) bY ((wH:Int)==1) iy (bD (un fun (v8:Bool) (wR:List V)=>
      kr wR) (fun (ga:List V)=>kM C a b' cC cN bq bY ga kn))
     else
     nN C a b' bq cC cN (IntKind.wrap .i64 (b'-a)) bY false iy (bD (un fun (CV:Bool) (QP:List V)=>
      kr QP) (fun (QQ:List V)=>kM C a b' cC cN bq bY QQ kn))
    else
     nN C a b' bq cC cN (IntKind.wrap .i64 (b'-a)) bY false iy (bD (un fun (W7:Bool) (QR:List V)=>
      kr QR) (fun (QS:List V)=>kM C a b' cC cN bq bY QS kn)))):=rfl
section
variable {a b:Nat} {lim:Int} {wb wp:Bool}
theorem QT {d:Array XE} (dq:a+12<b) (hb:b≤d.size) (hs:d.size<1152921504606846976) (len:Int) (t:Bool): ∃(l1:Int) (d1:Array XE),PermIn a b d d1∧∀(β:Type) (kr:(Int × List V)→Option β),zN CC a b lim wb wp len t (eA d) kr=kr (l1,eA d1):=by
 cases t with
 | true=>
  obtain ⟨R,e,hR⟩:=QO dq hb hs
  refine ⟨IntKind.wrap .i64 (lim-1),R,hR,fun β kr=> ?_⟩
  unfold zN
  rw[cond_true,e]
  rfl
 | false=>exact ⟨lim,d,permIn_refl _ _ _,fun β kr=>rfl⟩
theorem QU {d:Array XE} (dq:a+12<b) (hb:b≤d.size) (hs:d.size<1152921504606846976) (len h:Int) (t:Bool) {p:Nat} (h1:a≤p) (h2:p<b): ∃(p2:Nat) (h2:Int) (d1:Array XE),a≤p2∧p2<b∧PermIn a b d d1∧∀(β:Type) (kr:(Int × Int × List V)→Option β),zO CC a b lim wb wp len p h t (eA d) kr=kr ((p2:Int),h2,eA d1):=by
 cases t with
 | true=>
  refine ⟨b-1-(p-a),1,reverseRange d a b,by omega,by omega,reverseRange_holds d a b (by omega) hb,fun β kr=> ?_⟩
  unfold zO
  rw[cond_true,P2 (by omega) hb hs]
  simp (disch:=omega) only[Option.bind_some,V.aD,V.e8,eS,gx,wrap64]
 | false=>exact ⟨p,h,d,h1,h2,permIn_refl _ _ _,fun β kr=>rfl⟩
theorem QV {d:Array XE} (dq:a+12<b) (hb:b≤d.size) (hs:d.size<1152921504606846976) (hB:Below an a b d) (len p:Int) (t:Bool): ∃d1:Array XE,PermIn a b d d1∧
  ((∀(β:Type) (kr:((Bool × List V) ⊕ List V)→Option β),nN CC a b lim wb wp len p t (eA d) kr=kr (.inr (eA d1)))∨
  (SortedIn an a b d1∧∀(β:Type) (kr:((Bool × List V) ⊕ List V)→Option β),nN CC a b lim wb wp len p t (eA d) kr=kr (.inl (true,eA d1)))):=by
 cases t with
 | true=>
  have hp:=partialInsertionSort_holds (lt:=an) nP d a b (by omega) hb hB
  refine ⟨_,hp.1,?_⟩
  cases h:(partialInsertionSort an d a b).2 with
  | true=>
   refine .inr ⟨hp.2 h,fun β kr=> ?_⟩
   unfold nN
   rw[cond_true,DP (by omega) hb hs,h]
   rfl
  | false=>
   refine .inl fun β kr=> ?_
   unfold nN
   rw[cond_true,DP (by omega) hb hs,h]
   rfl
 | false=>exact ⟨d,permIn_refl _ _ _,.inl fun β kr=>rfl⟩
end
def sU (a b:Nat) (d:Array XE):Prop:= ∀(lim:Int) (wb wp:Bool),∃R,Loop (YU CC) ((a:Int),(b:Int),lim,wb,wp,eA d)=some (eA R)∧PermIn a b d R∧SortedIn an a b R
theorem sU.call {a b:Nat} {d:Array XE} (h:sU a b d) (lim:Int): ∃R,CC iK [.int .i64 (a:Int),.int .i64 (b:Int),.int .i64 lim,.list ab (eA d)]=some [.list ab (eA R)]∧PermIn a b d R∧SortedIn an a b R:=by
 obtain ⟨R,e,h1,h2⟩:=h lim true true
 refine ⟨R,aj5 ?_,h1,h2⟩
 unfold YW
 rw[e]
 rfl
theorem QW {a b p:Nat} {d:Array XE} (dq:a+12<b) (hb:b≤d.size) (hs:d.size<1152921504606846976) (hB:Below an a b d) (h1:a≤p) (h2:p<b)
  (ih: ∀(a2 b2:Nat) (d2:Array XE),b2-a2<b-a→a2≤b2→b2≤d2.size→d2.size<1152921504606846976→Below an a2 b2 d2→sU a2 b2 d2) (wb wp:Bool) (lim:Int):
  ∃(a2 b2:Nat) (l8 l9:Bool) (d2:Array XE),b2-a2<b-a∧a2≤b2∧b2≤d2.size∧d2.size<1152921504606846976∧Below an a2 b2 d2∧
   (∀R,PermIn a2 b2 d2 R→SortedIn an a2 b2 R→PermIn a b d R∧SortedIn an a b R)∧
   ∀(β:Type) (kn:(Int × Int × Int × Bool × Bool × (List V))→Option β),kM CC a b wb wp lim p (eA d) kn=kn ((a2:Int),(b2:Int),lim,l8,l9,eA d2):=by
 have part: ∃(a2 b2:Nat) (l8 l9:Bool) (d2:Array XE),b2-a2<b-a∧a2≤b2∧b2≤d2.size∧d2.size<1152921504606846976∧Below an a2 b2 d2∧
   (∀R,PermIn a2 b2 d2 R→SortedIn an a2 b2 R→PermIn a b d R∧SortedIn an a b R)∧
   ∀(β:Type) (kn:(Int × Int × Int × Bool × Bool × (List V))→Option β),
    ((CC oT [.int .i64 (a:Int),.int .i64 (b:Int),.int .i64 (p:Int),.list ab (eA d)]).bind fun cG=>
        bif decide (((IntKind.wrap .i64 (((V.nth cG 0).toInt)-(a:Int))):Int)<(IntKind.wrap .i64 ((b:Int)-((V.nth cG 0).toInt)))) then
         (CC iK [.int .i64 (a:Int),.int .i64 ((V.nth cG 0).toInt),.int .i64 lim,.list ab ((V.nth (cG.drop 2) 0).toList)]).bind fun nO=>
         kn (IntKind.wrap .i64 (((V.nth cG 0).toInt)+1),(b:Int),lim,decide (((IntKind.wrap .i64 (((V.nth cG 0).toInt)-(a:Int))):Int)≥(IntKind.wrap .i64 (Int.tdiv (IntKind.wrap .i64 ((b:Int)-(a:Int))) 8))),(V.nth (cG.drop 1) 0).toBool,(V.nth nO 0).toList)
        else
         (CC iK [.int .i64 (IntKind.wrap .i64 (((V.nth cG 0).toInt)+1)),.int .i64 (b:Int),.int .i64 lim,.list ab ((V.nth (cG.drop 2) 0).toList)]).bind fun ef=>
         kn ((a:Int),(V.nth cG 0).toInt,lim,decide (((IntKind.wrap .i64 ((b:Int)-((V.nth cG 0).toInt))):Int)≥(IntKind.wrap .i64 (Int.tdiv (IntKind.wrap .i64 ((b:Int)-(a:Int))) 8))),(V.nth (cG.drop 1) 0).toBool,(V.nth ef 0).toList))=kn ((a2:Int),(b2:Int),lim,l8,l9,eA d2):=by
  obtain ⟨mid,ap,d4,hx⟩: ∃mid ap d4,partition an d a b p=(mid,ap,d4):=⟨_,_,_,rfl⟩
  obtain ⟨g1,g2,iB,QX,QY,QZ,Q0⟩:=round_part nP (partition_holds an) h1 h2 hb hB hx
  have hc:=Qf (a:=a) (b:=b) (pivot:=p) (d:=d) h2 (by omega) hb hs
  rw[hx] at hc
  by_cases hl:mid-a<b-mid
  ·obtain ⟨L,e,l1,l2⟩:=(ih a mid d4 (by omega) g1 (by rw[iB];omega) (by rw[iB];exact hs) QX).call lim
   obtain ⟨wS,qc⟩:=QZ _ l1 l2
   refine ⟨mid+1,b,decide (((IntKind.wrap .i64 ((mid:Int)-(a:Int))):Int)≥(IntKind.wrap .i64 (Int.tdiv (IntKind.wrap .i64 ((b:Int)-(a:Int))) 8))),ap,L,by omega,by omega,by rw[l1.1,iB];exact hb,by rw[l1.1,iB];exact hs,wS,qc,fun β kn=> ?_⟩
   ·rw[hc]
    simp only[Option.bind_some,V.aD,V.j8,V.toInt_int,V.cI,V.e8,fm,eM]
    rw[ar,ag (by rw[gx g1,gx (by omega),wrap64 (by omega) (by omega),wrap64 (by omega) (by omega)];omega),e]
    simp only[Option.bind_some,V.aD,V.e8]
    rw[bW,wrap64 (x:=((mid+1:Nat):Int)) (by omega) (by omega)]
  ·obtain ⟨L,e,l1,l2⟩:=(ih (mid+1) b d4 (by omega) (by omega) (by rw[iB];exact hb) (by rw[iB];exact hs) QY).call lim
   obtain ⟨wS,qc⟩:=Q0 _ l1 l2
   refine ⟨a,mid,decide (((IntKind.wrap .i64 ((b:Int)-(mid:Int))):Int)≥(IntKind.wrap .i64 (Int.tdiv (IntKind.wrap .i64 ((b:Int)-(a:Int))) 8))),ap,L,by omega,by omega,by rw[l1.1,iB];omega,by rw[l1.1,iB];exact hs,wS,qc,fun β kn=> ?_⟩
   ·rw[hc]
    simp only[Option.bind_some,V.aD,V.j8,V.toInt_int,V.cI,V.e8,fm,eM]
    rw[ar,ah (by rw[gx g1,gx (by omega),wrap64 (by omega) (by omega),wrap64 (by omega) (by omega)];omega),bW,wrap64 (x:=((mid+1:Nat):Int)) (by omega) (by omega),e]
    simp only[Option.bind_some,V.aD,V.e8]
 by_cases ha:0<a
 ·by_cases hc:cx d[a-1]! d[p]! <0
  ·obtain ⟨a2,b2,l8,l9,d2,q1,q2,q3,q4,q5,q6,q7⟩:=part
   refine ⟨a2,b2,l8,l9,d2,q1,q2,q3,q4,q5,q6,fun β kn=> ?_⟩
   rw[←q7 β kn]
   unfold kM
   rw[ar,ag (by omega),eS ha,wrap64 (by omega) (by omega),eU (i:=a-1) (by omega),eV (by omega),eU (i:=p) (by omega),eV (by omega)]
   simp only[XE.aH,XE.aN,XE.aK,iN,Option.bind_some,V.aD,V.toInt_int]
   rw[dH,ar,ag hc]
  ·obtain ⟨mid,d4,hx⟩: ∃mid d4,partitionEqual an d a b p=(mid,d4):=⟨_,_,rfl⟩
   obtain ⟨g1,Bq,iB,Q1,qc⟩:=round_eq nP (partitionEqual_holds an) ha h1 h2 hb hB (by rw[sP,←propext (aj7 _ _)];exact hc) hx
   have he:=Qh (a:=a) (b:=b) (pivot:=p) (d:=d) h2 (by omega) hb hs
   rw[hx] at he
   refine ⟨mid,b,wb,wp,d4,by omega,Bq,by rw[iB];exact hb,by rw[iB];exact hs,Q1,qc,fun β kn=> ?_⟩
   unfold kM
   rw[ar,ag (by omega),eS ha,wrap64 (by omega) (by omega),eU (i:=a-1) (by omega),eV (by omega),eU (i:=p) (by omega),eV (by omega)]
   simp only[XE.aH,XE.aN,XE.aK,iN,Option.bind_some,V.aD,V.toInt_int]
   rw[dH,ar,ah hc,he]
   rfl
 ·obtain ⟨a2,b2,l8,l9,d2,q1,q2,q3,q4,q5,q6,q7⟩:=part
  refine ⟨a2,b2,l8,l9,d2,q1,q2,q3,q4,q5,q6,fun β kn=> ?_⟩
  rw[←q7 β kn]
  unfold kM
  rw[ar,ah (by omega)]
theorem Q2: ∀(n a b:Nat) (d:Array XE),b-a≤n→a≤b→b≤d.size→d.size<1152921504606846976→Below an a b d→sU a b d:=by
 intro n
 induction n with
 | zero=>
  intro a b d hn dq hb hs hB lim wb wp
  have hi:=insertionSort_holds (lt:=an) nP d a b dq hb
  refine ⟨_,aG ?_,hi⟩
  show rp CC a b lim wb wp (eA d) (fun y=>some (Sum.inl y)) (fun r=>some (Sum.inr r))=_
  rw[sS,ar,ag (by rw[gx dq,wrap64 (by omega) (by omega)];omega),Dl hb hs (by omega)]
  rfl
 | succ n ih=>
  intro a b d hn dq hb hs hB lim wb wp
  by_cases D2:b-a≤12
  ·have hi:=insertionSort_holds (lt:=an) nP d a b dq hb
   refine ⟨_,aG ?_,hi⟩
   show rp CC a b lim wb wp (eA d) (fun y=>some (Sum.inl y)) (fun r=>some (Sum.inr r))=_
   rw[sS,ar,ag (by rw[gx dq,wrap64 (by omega) (by omega)];omega),Dl hb hs (by omega)]
   rfl
  ·have qd:a+12<b:=by omega
   have pN: ¬(((IntKind.wrap .i64 ((b:Int)-(a:Int))):Int)≤12):=by rw[gx dq,wrap64 (by omega) (by omega)];omega
   by_cases h0:lim=0
   ·have hi:=heapSort_holds (lt:=an) nP d a b dq hb
    refine ⟨_,aG ?_,hi⟩
    show rp CC a b lim wb wp (eA d) (fun y=>some (Sum.inl y)) (fun r=>some (Sum.inr r))=_
    rw[sS,ar,ah pN,cq,ag h0,P0 (by omega) hb hs]
    rfl
   ·obtain ⟨l1,d1,s1,k1⟩:=QT (lim:=lim) (wb:=wb) (wp:=wp) qd hb hs (IntKind.wrap .i64 ((b:Int)-(a:Int))) (!wb)
    have b1:b≤d1.size:=by rw[s1.1];exact hb
    have z1:d1.size<1152921504606846976:=by rw[s1.1];exact hs
    obtain ⟨p,h,c1,p1,p2⟩:=QL qd b1 z1
    obtain ⟨q,h2,d2,q1,q2,s2,k2⟩:=QU (lim:=l1) (wb:=wb) (wp:=wp) qd b1 z1 (IntKind.wrap .i64 ((b:Int)-(a:Int))) h (h==2) p1 p2
    have b2:b≤d2.size:=by rw[s2.1];exact b1
    have z2:d2.size<1152921504606846976:=by rw[s2.1];exact z1
    have B2:Below an a b d2:=(hB.perm hb s1).perm b1 s2
    obtain ⟨t,ht⟩: ∃t:Bool,t=(bif wb then (bif wp then (h2==1) else false) else false):=⟨_,rfl⟩
    obtain ⟨d3,s3,k3⟩:=QV (lim:=l1) (wb:=wb) (wp:=wp) qd b2 z2 B2 (IntKind.wrap .i64 ((b:Int)-(a:Int))) (q:Int) t
    have b3:b≤d3.size:=by rw[s3.1];exact b2
    have z3:d3.size<1152921504606846976:=by rw[s3.1];exact z2
    have B3:Below an a b d3:=B2.perm b2 s3
    have P3:PermIn a b d d3:=permIn_trans _ _ _ a b (permIn_trans _ _ _ a b s1 s2) s3
    have step: ∀(β:Type) (kn:(Int × Int × Int × Bool × Bool × (List V))→Option β) (kr:(List V)→Option β),rp CC a b lim wb wp (eA d) kn kr=
      nN CC a b l1 wb wp (IntKind.wrap .i64 ((b:Int)-(a:Int))) (q:Int) t (eA d2) (bD (un fun (v8:Bool) (wR:List V)=>kr wR) (fun (ga:List V)=>kM CC a b wb wp l1 q ga kn)):=by
     intro β kn kr
     rw[sS,ar,ah pN,cq,ah h0,k1]
     simp only[un]
     rw[c1]
     simp only[Option.bind_some,V.aD,V.j8,V.toInt_int,fm,eM]
     rw[k2]
     simp only[un]
     rw[ht]
     cases wb
     ·rfl
     ·cases wp
      ·rfl
      ·rfl
    rcases k3 with k3|⟨Q3,k3⟩
    ·obtain ⟨a4,b4,Q4,Q5,d4,r1,r2,r3,r4,r5,r6,r7⟩:=QW qd b3 z3 B3 q1 q2 (fun a2 b2 d2 aR h1 h2 h3 h4=>ih a2 b2 d2 (by omega) h1 h2 h3 h4) wb wp l1
     obtain ⟨R,e,e1,e2⟩:=ih a4 b4 d4 (by omega) r2 r3 r4 r5 l1 Q4 Q5
     obtain ⟨f1,f2⟩:=r6 R e1 e2
     refine ⟨R,(br ?_).trans e,permIn_trans _ _ _ a b P3 f1,f2⟩
     show rp CC a b lim wb wp (eA d) (fun y=>some (Sum.inl y)) (fun r=>some (Sum.inr r))=_
     rw[step,k3]
     exact r7 _ (fun y=>some (Sum.inl y))
    ·refine ⟨d3,aG ?_,P3,Q3⟩
     show rp CC a b lim wb wp (eA d) (fun y=>some (Sum.inl y)) (fun r=>some (Sum.inr r))=_
     rw[step,k3]
     rfl
theorem aj8 (l:List XE) (hs:l.length<1152921504606846976): ∃R:List XE,CC yG [.list ab (l.map XE.enc)]=some [.list ab (R.map XE.enc)]∧R.Perm l∧R.Pairwise (fun x y=> ¬y.lt x):=by
 obtain ⟨L,e1,_⟩:=D0 (x:=l.length) (by omega)
 obtain ⟨R,e2,h1,h2⟩:=(Q2 _ 0 l.toArray.size l.toArray (bN _) (jS _) (bN _) (by simpa using hs) (.inl rfl)).call (L:Int)
 have bh:R.size=l.length:=by rw[h1.1];simp
 refine ⟨R.toList,aj6 ?_,?_,?_⟩
 ·unfold YX
  rw[aC,sB (A:=l.length) (by omega),e1]
  simp only[Option.bind_some,V.aD,V.toInt_int]
  have e3:eA l.toArray=l.map XE.enc:=by simp[o6]
  rw[e3,show ((l.toArray.size:Nat):Int)=(l.length:Int) by simp,show ((0:Nat):Int)=0 from rfl] at e2
  rw[e2]
  rfl
 ·have h3:=h1.2.2
  rw[show l.toArray.size=R.size from h1.1.symm,FQ,h1.1,FQ] at h3
  exact h3
 ·rw[xd]
  intro i j hi hj qM
  have h3:=h2 i j (jS _) qM (by simpa[←bh] using hj)
  rw[sP] at h3
  have dQ:i<R.size:=by simpa using hi
  have gY:j<R.size:=by simpa using hj
  rw[AQ R i dQ,AQ R j gY] at h3
  simpa using h3
end Go.AM.SX
set_option maxRecDepth 100000
namespace Go.AM
open Go.Proofs
noncomputable abbrev Jl:Code:=bU Tryz.prog (az.aT 203)
noncomputable def zQ (C:af) (qe ma:Nat) (k' eW:Int) (ss:List V) {β:Type} (kn:(Int × Int × (List V))→Option β) (kr:(Int × Int × Bool × (List V))→Option β):Option β:=
 bif decide ((eW:Int)<(ma:Int)) then
  bif (decide (0≤eW))&&(decide (eW<(ma:Int))) then
  (ss[qe+((eW:Int).toNat)]?).bind fun x4=>
  bif (decide (0≤(IntKind.wrap .i64 (eW-1))))&&(decide ((IntKind.wrap .i64 (eW-1))<(ma:Int))) then
   (ss[qe+((IntKind.wrap .i64 (eW-1):Int).toNat)]?).bind fun x5=>
   (C qX [.int .i64 ((x4.cell 0).toInt),.int .i64 ((x4.cell 1).toInt),.list ab ((x4.cell 2).toList),.int .i64 ((x5.cell 0).toInt),.int .i64 ((x5.cell 1).toInt),.list ab ((x5.cell 2).toList)]).bind fun r6=>
   bif !((V.nth r6 0).toBool) then
   bif (decide (0≤eW))&&(decide (eW<(ma:Int))) then
    (ss[qe+((eW:Int).toNat)]?).bind fun x7=>
    bif (decide (0≤k'))&&(decide (k'<(ss.length:Int))) then
    (ss[(k':Int).toNat]?).bind fun x8=>
    kn (IntKind.wrap .i64 (k'+1),IntKind.wrap .i64 (eW+1),ss.set ((k':Int).toNat) (.agg [.int .i64 ((x7.cell 0).toInt),.int .i64 ((x7.cell 1).toInt),.list ab ((x7.cell 2).toList)]))
    else none
   else none
   else
   kn (k',IntKind.wrap .i64 (eW+1),ss)
  else none
  else none
 else
  kr (k',eW,decide ((eW:Int)<(ma:Int)),ss)
noncomputable def wU (C:af) (qe ma:Nat):(Int × Int × (List V))→Option ((Int × Int × (List V)) ⊕ (Int × Int × Bool × (List V))):=un fun k'=>un fun eW ss=>zQ C qe ma k' eW ss (fun y=>some (.inl y)) (fun r=>some (.inr r))
noncomputable def zR (C:af) (ss:List V) (k':Int) {β:Type} (kn:Int→Option β) (kr:((List V) ⊕ (Int × Bool))→Option β):Option β:=
 bif decide ((k':Int)<(ss.length:Int)) then
  bif (decide (0≤k'))&&(decide (k'<(ss.length:Int))) then
  (ss[(k':Int).toNat]?).bind fun x1=>
  bif (decide (0≤(IntKind.wrap .i64 (k'-1))))&&(decide ((IntKind.wrap .i64 (k'-1))<(ss.length:Int))) then
   (ss[(IntKind.wrap .i64 (k'-1):Int).toNat]?).bind fun x2=>
   (C qX [.int .i64 ((x1.cell 0).toInt),.int .i64 ((x1.cell 1).toInt),.list ab ((x1.cell 2).toList),.int .i64 ((x2.cell 0).toInt),.int .i64 ((x2.cell 1).toInt),.list ab ((x2.cell 2).toList)]).bind fun r3=>
   bif (V.nth r3 0).toBool then
   bif (decide (0≤k'))&&(decide (k'≤(ss.length:Int))) then
    (Loop (wU C ((k':Int).toNat) (ss.length-((k':Int).toNat))) (k',1,ss)).bind (un fun (gg:Int)=>un fun (aj9:Int)=>un fun (CQ:Bool) (jR:List V)=>
     bif (decide (0≤gg))&&(decide (gg≤(jR.length:Int))) then
     bif (decide (0≤gg))&&(decide (gg≤((jR.take ((gg:Int).toNat)++(List.replicate (jR.length-((gg:Int).toNat)) (V.agg [.int .i64 0,.int .i64 0,.list ab ([]:List V)])++jR.drop (((gg:Int).toNat)+(jR.length-((gg:Int).toNat))))).length:Int))) then
      kr (.inl ((jR.take ((gg:Int).toNat)++(List.replicate (jR.length-((gg:Int).toNat)) (V.agg [.int .i64 0,.int .i64 0,.list ab ([]:List V)])++jR.drop (((gg:Int).toNat)+(jR.length-((gg:Int).toNat))))).take ((gg:Int).toNat)))
     else none
     else none)
   else none
   else
   kn (IntKind.wrap .i64 (k'+1))
  else none
  else none
 else
  kr (.inr (k',decide ((k':Int)<(ss.length:Int))))
noncomputable def wV (C:af) (ss:List V):(Int)→Option ((Int) ⊕ ((List V) ⊕ (Int × Bool))):=fun k'=>zR C ss k' (fun y=>some (.inl y)) (fun r=>some (.inr r))
noncomputable def YY (C:af):cj:=fun β n ds k=>
 bif Nat.beq n 145 then bt O0 [true,false,false,true,true] [[0,2,3,0,0,0]] (@zQ C) ds k else
 bif Nat.beq n 65 then bt O1 [true,false] [[0],[0,0,2]] (@zR C) ds k else
 none
abbrev YZ (C:af) (b:cg):Prop:=ch Tryz.prog az C (YY C) 203 (cv Tryz.prog (az.aT 203)) (az.sin 203).bf.length b
theorem aka (C:af):YZ C (.loop (aq [1,1,0,1,0,0,1,0,0,1,0,1,0,1,0,0] Jl)):=
 bw O0 [true,false,false,true,true] [[0,2,3,0,0,0]] (@zQ C) (by kernel_rfl) (aM (bs:=[]) (by kernel_rfl) aw) (fun ds=>by kernel_rfl) (fun i x=>by kernel_rfl) (fun i x β k=>by kernel_rfl) (fun β ds k=>by kernel_rfl)
theorem akb (C:af):YZ C (.loop (aq [1,1,0,1,0,0] Jl)):=
 bw O1 [true,false] [[0],[0,0,2]] (@zR C) (by kernel_rfl) (aM (bs:=[.loop (aq [1,1,0,1,0,0,1,0,0,1,0,1,0,1,0,0] Jl)]) (by kernel_rfl) (aZ (aka C) aw)) (fun ds=>by kernel_rfl) (fun i x=>by kernel_rfl) (fun i x β k=>by kernel_rfl) (fun β ds k=>by kernel_rfl)
noncomputable def Jm (C:af) (ss:List V):Option (List V):=
 bif decide (((ss.length:Int):Int)<2) then
  some [V.bool true,.list ab ss]
 else
  (Loop (wV C ss) 1).bind (bD (fun (Q6:List V)=>
   some [V.bool false,.list ab Q6]) (un fun (akc:Int) (v7:Bool)=>
   some [V.bool true,.list ab ss]))
theorem Q7 {ss:List V} {r:Option (List V)} (h:Jm CC ss=r):CC MP [.list ab ss]=r:=
 bn (key:=203) (L:=YY CC) (bs:=[.loop (aq [1,1,0,1,0,0] Jl)]) (by kernel_rfl) (aZ (akb CC) aw) (bm (by kernel_rfl) h)
noncomputable def Y0 (C:af) (oZ:List V):Option (List V):=
 (C yG [.list ab oZ]).bind fun r1=>
 (C MP [.list ab ((V.nth r1 0).toList)]).bind fun r2=>
 bif (V.nth r2 0).toBool then
  some [V.bool true,.list ab ((V.nth (r2.drop 1) 0).toList)]
 else
  some [V.bool false,.list ab ((V.nth (r2.drop 1) 0).toList)]
theorem akd {oZ:List V} {r:Option (List V)} (h:Y0 CC oZ=r):CC vW [.list ab oZ]=r:=
 bn (key:=149) (L:=cS) (bs:=[]) (by kernel_rfl) aw (bm (by kernel_rfl) h)
noncomputable def Y1 (C:af) (eH eI:Int) (e9:List V) (eJ eK:Int) (fa:List V):Option (List V):=
 (C bu [.int .i64 eH,.int .i64 eI,.list ab e9,.int .i64 eJ,.int .i64 eK,.list ab fa]).bind fun r1=>
 some [.bool ((((V.nth r1 0).toInt):Int)==0)]
theorem ake {eH eI:Int} {e9:List V} {eJ eK:Int} {fa:List V} {r:Option (List V)} (h:Y1 CC eH eI e9 eJ eK fa=r):CC qX [.int .i64 eH,.int .i64 eI,.list ab e9,.int .i64 eJ,.int .i64 eK,.list ab fa]=r:=
 bn (key:=159) (L:=cS) (bs:=[]) (by kernel_rfl) aw (bm (by kernel_rfl) h)
end Go.AM
