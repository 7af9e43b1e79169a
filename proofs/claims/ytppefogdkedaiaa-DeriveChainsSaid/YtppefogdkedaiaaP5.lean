/-
  Functions of the program, lifted to plain data.
-/
import Derived.Test.YtppefogdkedaiaaP4
set_option linter.unusedVariables false
set_option linter.unusedSimpArgs false
set_option maxRecDepth 100000
namespace Go.AM
open Go.Proofs
noncomputable abbrev Ee:Code:=cJ Try.prog (ay.aY 112)
noncomputable def zV (C:ag) (first lo hi i:Int) (ak:List V) {β:Type} (kn:(Int × (List V))→Option β) (kr:(Int × Bool × (List V))→Option β):Option β:=
 bif decide ((i:Int)≥0) then
  (C zi [.int .i64 i,.int .i64 hi,.int .i64 first,.list aa ak]).bind fun r1=>
  kn (IntKind.wrap .i64 (i-1),(V.nth r1 0).toList)
 else
  kr (i,decide ((i:Int)≥0),ak)
noncomputable def Ef (C:ag) (first lo hi:Int):(Int × (List V))→Option ((Int × (List V)) ⊕ (Int × Bool × (List V))):=un fun i ak=>zV C first lo hi i ak (fun y=>some (.inl y)) (fun r=>some (.inr r))
noncomputable def zW (C:ag) (first lo i:Int) (ak:List V) {β:Type} (kn:(Int × (List V))→Option β) (kr:(Int × Bool × (List V))→Option β):Option β:=
 bif decide ((i:Int)≥0) then
  bif (decide (0≤(IntKind.wrap .i64 (first+i))))&&(decide ((IntKind.wrap .i64 (first+i))<(ak.length:Int))) then
  (ak[(IntKind.wrap .i64 (first+i):Int).toNat]?).bind fun x5=>
  bif (decide (0≤first))&&(decide (first<(ak.length:Int))) then
   (ak[(first:Int).toNat]?).bind fun x6=>
   bif (decide (0≤first))&&(decide (first<(ak.length:Int))) then
   (ak[(first:Int).toNat]?).bind fun x7=>
   bif (decide (0≤(IntKind.wrap .i64 (first+i))))&&(decide ((IntKind.wrap .i64 (first+i))<((ak.set ((first:Int).toNat) (.agg [.int .i64 ((x5.cell 0).toInt),.int .i64 ((x5.cell 1).toInt),.list aa ((x5.cell 2).toList)])).length:Int))) then
    ((ak.set ((first:Int).toNat) (.agg [.int .i64 ((x5.cell 0).toInt),.int .i64 ((x5.cell 1).toInt),.list aa ((x5.cell 2).toList)]))[(IntKind.wrap .i64 (first+i):Int).toNat]?).bind fun x8=>
    (C zi [.int .i64 lo,.int .i64 i,.int .i64 first,.list aa ((ak.set ((first:Int).toNat) (.agg [.int .i64 ((x5.cell 0).toInt),.int .i64 ((x5.cell 1).toInt),.list aa ((x5.cell 2).toList)])).set ((IntKind.wrap .i64 (first+i):Int).toNat) (.agg [.int .i64 ((x6.cell 0).toInt),.int .i64 ((x6.cell 1).toInt),.list aa ((x6.cell 2).toList)]))]).bind fun r9=>
    kn (IntKind.wrap .i64 (i-1),(V.nth r9 0).toList)
   else none
   else none
  else none
  else none
 else
  kr (i,decide ((i:Int)≥0),ak)
noncomputable def Eg (C:ag) (first lo:Int):(Int × (List V))→Option ((Int × (List V)) ⊕ (Int × Bool × (List V))):=un fun i ak=>zW C first lo i ak (fun y=>some (.inl y)) (fun r=>some (.inr r))
noncomputable def Qv (C:ag):cy:=fun β n ds k=>
 bif Nat.beq n 65 then cj Ip [false,false,false,true,true] [[1,2,3,0,0,0]] (@zV C) ds k else
 bif Nat.beq n 129 then cj Iq [false,false,true,true] [[1,2,0,0,0]] (@zW C) ds k else
 none
abbrev Qw (C:ag) (b:cu):Prop:=cv Try.prog ay C (Qv C) 112 (cM Try.prog (ay.aY 112)) (ay.sin 112).a8.length b
theorem abI (C:ag):Qw C (.loop (aw [1,1,1,0,1,0,0] Ee)):=
 cw Ip [false,false,false,true,true] [[1,2,3,0,0,0]] (@zV C) (by kernel_rfl) (bf (bs:=[]) (by kernel_rfl) av) (fun ds=>by kernel_rfl) (fun i x=>by kernel_rfl) (fun i x β k=>by kernel_rfl) (fun β ds k=>by kernel_rfl)
theorem abJ (C:ag):Qw C (.loop (aw [1,1,1,1,1,0,0] Ee)):=
 cw Iq [false,false,true,true] [[1,2,0,0,0]] (@zW C) (by kernel_rfl) (bf (bs:=[]) (by kernel_rfl) av) (fun ds=>by kernel_rfl) (fun i x=>by kernel_rfl) (fun i x β k=>by kernel_rfl) (fun β ds k=>by kernel_rfl)
noncomputable def Qx (C:ag) (a b':Int) (ak:List V):Option (List V):=
 (Loop (Ef C a 0 (IntKind.wrap .i64 (b'-a))) (IntKind.wrap .i64 (Int.tdiv (IntKind.wrap .i64 ((IntKind.wrap .i64 (b'-a))-1)) 2),ak)).bind (un fun (i_2:Int)=>un fun (jQ:Bool) (abK:List V)=>
  (Loop (Eg C a 0) (IntKind.wrap .i64 ((IntKind.wrap .i64 (b'-a))-1),abK)).bind (un fun (ahs:Int)=>un fun (zy:Bool) (l9:List V)=>
   some [.list aa l9]))
theorem abL {a b':Int} {ak:List V} {r:Option (List V)} (h:Qx CC a b' ak=r):CC zg [.int .i64 a,.int .i64 b',.list aa ak]=r:=
 a9 (key:=112) (L:=Qv CC) (bs:=[.loop (aw [1,1,1,0,1,0,0] Ee),.loop (aw [1,1,1,1,1,0,0] Ee)]) (by kernel_rfl) (bG (abI CC) (bG (abJ CC) av)) (aW (by kernel_rfl) h)
noncomputable abbrev Qy:Code:=cJ Try.prog (ay.aY 115)
noncomputable def wH (C:ag) (i j:Int) (ak:List V) {β:Type} (kn:(Int × Int × (List V))→Option β) (kr:(Int × Int × Bool × (List V))→Option β):Option β:=
 bif decide ((i:Int)<j) then
  bif (decide (0≤j))&&(decide (j<(ak.length:Int))) then
  (ak[(j:Int).toNat]?).bind fun x1=>
  bif (decide (0≤i))&&(decide (i<(ak.length:Int))) then
   (ak[(i:Int).toNat]?).bind fun x2=>
   bif (decide (0≤i))&&(decide (i<(ak.length:Int))) then
   (ak[(i:Int).toNat]?).bind fun x3=>
   bif (decide (0≤j))&&(decide (j<((ak.set ((i:Int).toNat) (.agg [.int .i64 ((x1.cell 0).toInt),.int .i64 ((x1.cell 1).toInt),.list aa ((x1.cell 2).toList)])).length:Int))) then
    ((ak.set ((i:Int).toNat) (.agg [.int .i64 ((x1.cell 0).toInt),.int .i64 ((x1.cell 1).toInt),.list aa ((x1.cell 2).toList)]))[(j:Int).toNat]?).bind fun x4=>
    kn (IntKind.wrap .i64 (i+1),IntKind.wrap .i64 (j-1),(ak.set ((i:Int).toNat) (.agg [.int .i64 ((x1.cell 0).toInt),.int .i64 ((x1.cell 1).toInt),.list aa ((x1.cell 2).toList)])).set ((j:Int).toNat) (.agg [.int .i64 ((x2.cell 0).toInt),.int .i64 ((x2.cell 1).toInt),.list aa ((x2.cell 2).toList)]))
   else none
   else none
  else none
  else none
 else
  kr (i,j,decide ((i:Int)<j),ak)
noncomputable def zX (C:ag):(Int × Int × (List V))→Option ((Int × Int × (List V)) ⊕ (Int × Int × Bool × (List V))):=un fun i=>un fun j ak=>wH C i j ak (fun y=>some (.inl y)) (fun r=>some (.inr r))
noncomputable def Qz (C:ag):cy:=fun β n ds k=>
 bif Nat.beq n 33 then cj Iv [true,true,true] [[0,0,0,0]] (@wH C) ds k else
 none
abbrev abM (C:ag) (b:cu):Prop:=cv Try.prog ay C (Qz C) 115 (cM Try.prog (ay.aY 115)) (ay.sin 115).a8.length b
theorem abN (C:ag):abM C (.loop (aw [1,1,0,0] Qy)):=
 cw Iv [true,true,true] [[0,0,0,0]] (@wH C) (by kernel_rfl) (bf (bs:=[]) (by kernel_rfl) av) (fun ds=>by kernel_rfl) (fun i x=>by kernel_rfl) (fun i x β k=>by kernel_rfl) (fun β ds k=>by kernel_rfl)
noncomputable def QA (C:ag) (a b':Int) (ak:List V):Option (List V):=
 (Loop (zX C) (a,IntKind.wrap .i64 (b'-1),ak)).bind (un fun (cF:Int)=>un fun (Jk:Int)=>un fun (o5:Bool) (abO:List V)=>
  some [.list aa abO])
theorem abP {a b':Int} {ak:List V} {r:Option (List V)} (h:QA CC a b' ak=r):CC DC [.int .i64 a,.int .i64 b',.list aa ak]=r:=
 a9 (key:=115) (L:=Qz CC) (bs:=[.loop (aw [1,1,0,0] Qy)]) (by kernel_rfl) (bG (abN CC) av) (aW (by kernel_rfl) h)
end Go.AM
set_option maxRecDepth 100000
set_option maxHeartbeats 4000000
namespace Go.AM.SX
open Go.Proofs Go.Sort
def ax (a b:XE):Bool:=decide (bM a b<0)
theorem rL (a b:XE):(ax a b=true)=(bM a b<0):=by unfold ax;rw[dM]
theorem qt (a b:XE):((!ax a b)=true)= ¬(bM a b<0):=by unfold ax;simp
abbrev eA (d:Array XE):List V:=o8 XE.enc d
theorem abQ (a j:Nat) (d:Array XE):insInner ax a (j+1) d=if j+1>a then (if bM d[j+1]! d[j]! <0 then insInner ax a j (swp d (j+1) j) else d) else d:=by
 rw[Qo]
 by_cases h1:j+1>a
 ·rw[aj h1];simp only[h1,qH,ml,rL]
 ·rw[ai h1,ai (by simp[h1])]
theorem Js (hi first root:Nat) (d:Array XE):siftDown ax hi first root d=
  if 2*root+1≥hi then d else
   if 2*root+2<hi then
    (if bM d[first+(2*root+1)]! d[first+(2*root+2)]! <0 then
     (if bM d[first+root]! d[first+(2*root+2)]! <0 then siftDown ax hi first (2*root+2) (swp d (first+root) (first+(2*root+2))) else d)
    else (if bM d[first+root]! d[first+(2*root+1)]! <0 then siftDown ax hi first (2*root+1) (swp d (first+root) (first+(2*root+1))) else d))
   else (if bM d[first+root]! d[first+(2*root+1)]! <0 then siftDown ax hi first (2*root+1) (swp d (first+root) (first+(2*root+1))) else d):=by
 rw[siftDown]
 by_cases h1:2*root+1≥hi
 ·rw[qF h1,aj h1]
 rw[dif_neg h1,ai h1]
 by_cases U:2*root+2<hi
 ·rw[aj U]
  by_cases h3:bM d[first+(2*root+1)]! d[first+(2*root+2)]! <0
  ·rw[aj h3,aj (by simp only[aI,dM,rL];exact ⟨U,h3⟩)]
   simp only[qt]
   by_cases h4:bM d[first+root]! d[first+(2*root+2)]! <0
   ·rw[ai (pt h4),qF U,aj h4]
   ·rw[aj h4,ai h4]
  ·rw[ai h3,ai (by simp only[aI,dM,rL];exact fun h=>h3 h.2)]
   simp only[qt]
   by_cases h4:bM d[first+root]! d[first+(2*root+1)]! <0
   ·rw[ai (pt h4),aj h4]
   ·rw[aj h4,ai h4]
 ·rw[ai U,ai (by simp only[aI,dM,rL];exact fun h=>U h.1)]
  simp only[qt]
  by_cases h4:bM d[first+root]! d[first+(2*root+1)]! <0
  ·rw[ai (pt h4),aj h4]
  ·rw[aj h4,ai h4]
theorem QB {a b i:Nat}: ∀(j:Nat) (d:Array XE),j<d.size→d.size<1152921504606846976→
  ∃j' t,Loop (wE CC a b i) ((j:Int),eA d)=some (j',t,eA (insInner ax a j d))
 | 0,d,hj,hs=>⟨(0:Nat),false,bc (by
   simp (disch:=omega) only[wE,wD,un,aA,ai]
   rfl)⟩
 | j+1,d,hj,hs=>by
  obtain ⟨j',t,ih⟩:=QB (a:=a) (b:=b) (i:=i) j (swp d (j+1) j) (by rw[size_swp];omega) (by rw[size_swp];omega)
  rw[abQ]
  by_cases h1:j+1>a
  ·rw[aj h1]
   have e:wE CC a b i (((j+1:Nat):Int),eA d)=if bM d[j+1]! d[j]! <0 then some (.inl ((j:Int),eA (swp d (j+1) j))) else some (.inr (((j+1:Nat):Int),decide (bM d[j+1]! d[j]! <0),eA d)):=by
    simp (disch:=omega) only[wE,wD,un,aA,dg,gC,aj,ai,wrap64,dx,fx,Int.toNat_natCast,Option.bind_some,fu,fw,XE.bq,XE.br,XE.bt,XE.re,fv,hG,gm,gb,V.aS,V.toInt_int,cond_true,cond_false,tQ]
    rfl
   by_cases U:bM d[j+1]! d[j]! <0
   ·rw[aj U] at e⊢
    exact ⟨j',t,(bS e).trans ih⟩
   ·rw[ai U] at e⊢
    exact ⟨_,_,bc e⟩
  ·rw[ai h1]
   exact ⟨((j+1:Nat):Int),false,bc (by
    simp (disch:=omega) only[wE,wD,un,aA,ai])⟩
theorem abR {a b:Nat}: ∀(n i:Nat) (d:Array XE),b-i=n→b≤d.size→d.size<1152921504606846976→
  ∃j' t,Loop (Ed CC a b) ((i:Int),eA d)=some (j',t,eA (insOuter ax a b i d)):=by
 intro n
 induction n with
 | zero=>
  intro i d hn hb hs
  rw[insOuter,ai (by omega)]
  exact ⟨(i:Int),false,bc (by
   simp (disch:=omega) only[Ed,zU,un,rJ,cond_false])⟩
 | succ n ih=>
  intro i d hn hb hs
  obtain ⟨j1,t1,h1⟩:=QB (a:=a) (b:=b) (i:=i) i d (by omega) hs
  obtain ⟨j',t,U⟩:=ih (i+1) (insInner ax a i d) (by omega) (by rw[Jp];omega) (by rw[Jp];omega)
  rw[insOuter,aj (by omega)]
  refine ⟨j',t,(bS ?_).trans U⟩
  simp (disch:=omega) only[Ed,zU,un,aA,aj,h1,Option.bind_some,dx,wrap64]
theorem QC {a b:Nat} {d:Array XE} (hb:b≤d.size) (hs:d.size<1152921504606846976) (ha:a<1152921504606846976):
  CC zf [.int .i64 (a:Int),.int .i64 (b:Int),.list aa (eA d)]=some [.list aa (eA (insertionSort ax d a b))]:=by
 refine abD ?_
 unfold Qr
 obtain ⟨j',t,h⟩:=abR (a:=a) (b:=b) _ (a+1) d rfl hb hs
 simp (disch:=omega) only[dx,wrap64]
 rw[h]
 rfl
theorem abS (hi first:Nat): ∀(n root:Nat) (d:Array XE),hi-root≤n→root<1152921504606846976→first+hi≤d.size→d.size<1152921504606846976→
  (∃x y z,Loop (oe CC hi first) ((root:Int),eA d)=some (.inl (x,y,z,eA (siftDown ax hi first root d))))∨
  (∃x y z,Loop (oe CC hi first) ((root:Int),eA d)=some (.inr (x,y,z,eA (siftDown ax hi first root d)))):=by
 intro n
 induction n with
 | zero=>
  intro root d hn hr hb hs
  rw[Js,aj (by omega)]
  exact .inl ⟨(root:Int),((root*2+1:Nat):Int),true,bc (by
   simp (disch:=omega) only[oe,rK,un,zS,dx,wrap64];rw[mW (by omega)];rfl)⟩
 | succ n ih=>
  intro root d hn hr hb hs
  by_cases h1:2*root+1≥hi
  ·rw[Js,aj h1]
   exact .inl ⟨(root:Int),((root*2+1:Nat):Int),true,bc (by
    simp (disch:=omega) only[oe,rK,un,zS,dx,wrap64];rw[mW (by omega)];rfl)⟩
  ·have go: ∀c:Nat,c<hi→root<c→(oe CC hi first ((root:Int),eA d)=
      if bM d[first+root]! d[first+c]! <0 then some (.inl ((c:Int),eA (swp d (first+root) (first+c)))) else some (.inr (.inr ((root:Int),(c:Int),true,eA d))))→
     siftDown ax hi first root d=(if bM d[first+root]! d[first+c]! <0 then siftDown ax hi first c (swp d (first+root) (first+c)) else d)→
     ((∃x y z,Loop (oe CC hi first) ((root:Int),eA d)=some (.inl (x,y,z,eA (siftDown ax hi first root d))))∨
     (∃x y z,Loop (oe CC hi first) ((root:Int),eA d)=some (.inr (x,y,z,eA (siftDown ax hi first root d))))):=by
    intro c hc hrc e1 e2
    rw[e2]
    by_cases h3:bM d[first+root]! d[first+c]! <0
    ·rw[aj h3] at e1
     rw[aj h3,bS e1]
     exact ih c _ (by omega) (by omega) (by rw[size_swp];omega) (by rw[size_swp];omega)
    ·rw[ai h3] at e1
     rw[ai h3,bc e1]
     exact .inr ⟨_,_,_,rfl⟩
   have e0:=Js hi first root d
   rw[ai h1] at e0
   by_cases U:2*root+2<hi
   ·rw[aj U] at e0
    by_cases h3:bM d[first+(2*root+1)]! d[first+(2*root+2)]! <0
    ·rw[aj h3] at e0
     refine go (2*root+2) (by omega) (by omega) ?_ e0
     rw[nn 2 root] at h3
     simp (disch:=omega) only[oe,rK,un,zS,dx,fx,wrap64]
     rw[aA,ai (by omega),aA,aj (by omega)]
     simp (disch:=omega) only[tR,aA,dg,gC,aj,ai,wrap64,dx,fx,Int.toNat_natCast,Option.bind_some,fu,fw,XE.bq,XE.br,XE.bt,XE.re,fv,hG,gm,gb,V.aS,V.toInt_int,cond_true,cond_false,nn 2 root,mW]
     by_cases h4:bM d[first+root]! d[first+(root*2+2)]! <0
     ·simp only[h4,db];rfl
     ·simp only[h4,fN];rfl
    ·rw[ai h3] at e0
     refine go (2*root+1) (by omega) (by omega) ?_ e0
     rw[nn 2 root] at h3
     simp (disch:=omega) only[oe,rK,un,zS,dx,fx,wrap64]
     rw[aA,ai (by omega),aA,aj (by omega)]
     simp (disch:=omega) only[tR,aA,dg,gC,aj,ai,wrap64,dx,fx,Int.toNat_natCast,Option.bind_some,fu,fw,XE.bq,XE.br,XE.bt,XE.re,fv,hG,gm,gb,V.aS,V.toInt_int,cond_true,cond_false,nn 2 root,rJ]
     by_cases h4:bM d[first+root]! d[first+(root*2+1)]! <0
     ·simp only[h4,db];rfl
     ·simp only[h4,fN];rfl
   ·rw[ai U] at e0
    refine go (2*root+1) (by omega) (by omega) ?_ e0
    simp (disch:=omega) only[oe,rK,un,zS,dx,fx,wrap64]
    rw[aA,ai (by omega),aA,ai (by omega)]
    simp (disch:=omega) only[tR,aA,dg,gC,aj,ai,wrap64,dx,fx,Int.toNat_natCast,Option.bind_some,fu,fw,XE.bq,XE.br,XE.bt,XE.re,fv,hG,gm,gb,V.aS,V.toInt_int,cond_true,cond_false,nn 2 root]
    by_cases h4:bM d[first+root]! d[first+(root*2+1)]! <0
    ·simp only[h4,db];rfl
    ·simp only[h4,fN];rfl
theorem QD {lo hi first:Nat} {d:Array XE} (hl:lo<1152921504606846976) (hb:first+hi≤d.size) (hs:d.size<1152921504606846976):
  CC zi [.int .i64 (lo:Int),.int .i64 (hi:Int),.int .i64 (first:Int),.list aa (eA d)]=some [.list aa (eA (siftDown ax hi first lo d))]:=by
 refine abH ?_
 unfold Qu
 rcases abS hi first _ lo d (b6 _) hl hb hs with ⟨x,y,z,h⟩|⟨x,y,z,h⟩
 ·rw[h];rfl
 ·rw[h];rfl
theorem QE {hi first:Nat}: ∀(k:Nat) (d:Array XE),k<1152921504606846976→first+hi≤d.size→d.size<1152921504606846976→
  ∃x y,Loop (Ef CC first 0 hi) ((k:Int)-1,eA d)=some (x,y,eA (heapBuild ax hi first k d))
 | 0,d,hk,hb,hs=>⟨-1,false,bc (by
   simp (disch:=omega) only[Ef,zV,un,aA,ai]
   rfl)⟩
 | k+1,d,hk,hb,hs=>by
  obtain ⟨x,y,ih⟩:=QE (hi:=hi) (first:=first) k (siftDown ax hi first k d) (by omega) (by rw[zT _ _ _ _ _ (b6 _)];omega) (by rw[zT _ _ _ _ _ (b6 _)];omega)
  refine ⟨x,y,(bS ?_).trans ih⟩
  simp (disch:=omega) only[Ef,zV,un,aA,aj,tQ,QD,Option.bind_some,V.aS,V.ld,wrap64]
theorem QF {first:Nat}: ∀(k:Nat) (d:Array XE),k<1152921504606846976→first+k≤d.size→d.size<1152921504606846976→
  ∃x y,Loop (Eg CC first 0) ((k:Int)-1,eA d)=some (x,y,eA (heapPop ax first k d))
 | 0,d,hk,hb,hs=>⟨-1,false,bc (by
   simp (disch:=omega) only[Eg,zW,un,aA,ai]
   rfl)⟩
 | k+1,d,hk,hb,hs=>by
  obtain ⟨x,y,ih⟩:=QF (first:=first) k (siftDown ax k first 0 (swp d first (first+k))) (by omega) (by rw[zT _ _ _ _ _ (b6 _),size_swp];omega) (by rw[zT _ _ _ _ _ (b6 _),size_swp];omega)
  refine ⟨x,y,(bS ?_).trans ih⟩
  have gz:=QD (lo:=0) (hi:=k) (first:=first) (d:=swp d first (first+k)) (by omega) (by rw[size_swp];omega) (by rw[size_swp];omega)
  unfold swp at gz⊢
  rw[show ((0:Nat):Int)=0 from rfl] at gz
  simp (disch:=omega) only[Eg,zW,un,tQ,aA,dg,gC,aj,ai,wrap64,dx,fx,Int.toNat_natCast,Option.bind_some,fu,fw,XE.bq,XE.br,XE.bt,XE.re,fv,hG,gm,gb,V.aS,V.toInt_int,cond_true,cond_false]
  rw[gz]
  simp (disch:=omega) only[Option.bind_some,V.aS,V.ld,wrap64]
theorem abT {a b:Nat} {d:Array XE} (eP:a<b) (hb:b≤d.size) (hs:d.size<1152921504606846976):
  CC zg [.int .i64 (a:Int),.int .i64 (b:Int),.list aa (eA d)]=some [.list aa (eA (heapSort ax d a b))]:=by
 refine abL ?_
 unfold Qx
 obtain ⟨x,y,h1⟩:=QE (hi:=b-a) (first:=a) ((b-a-1)/2+1) d (by omega) (by omega) hs
 obtain ⟨x2,y2,U⟩:=QF (first:=a) (b-a) (heapBuild ax (b-a) a ((b-a-1)/2+1) d) (by omega) (by rw[Jq];omega) (by rw[Jq];omega)
 have e1:((((b-a-1)/2+1:Nat):Int)-1)=Int.tdiv (((b-a:Nat):Int)-1) 2:=by
  rw[Int.tdiv_eq_ediv_of_nonneg (by omega)]
  omega
 rw[e1] at h1
 simp (disch:=omega) only[l8,wrap64]
 rw[h1]
 simp only[Option.bind_some,un]
 rw[U]
 rfl
theorem abU: ∀(n i j:Nat) (d:Array XE),j-i≤n→j<d.size→d.size<1152921504606846976→
  ∃x y z,Loop (zX CC) ((i:Int),(j:Int),eA d)=some (x,y,z,eA (reverseLoop i j d)):=by
 intro n
 induction n with
 | zero=>
  intro i j d hn hj hs
  rw[reverseLoop,ai (by omega)]
  exact ⟨(i:Int),(j:Int),false,bc (by
   simp (disch:=omega) only[zX,wH,un,rJ,cond_false])⟩
 | succ n ih=>
  intro i j d hn hj hs
  rw[reverseLoop]
  by_cases h:i<j
  ·rw[aj h]
   obtain ⟨x,y,z,U⟩:=ih (i+1) (j-1) (swp d i j) (by omega) (by rw[size_swp];omega) (by rw[size_swp];omega)
   refine ⟨x,y,z,(bS ?_).trans U⟩
   simp (disch:=omega) only[zX,wH,un,aA,dg,gC,aj,ai,wrap64,dx,fx,Int.toNat_natCast,Option.bind_some,fu,fw,XE.bq,XE.br,XE.bt,XE.re,fv,hG,gm,gb,V.aS,V.toInt_int,cond_true,cond_false,jR]
   rfl
  ·rw[ai h]
   exact ⟨(i:Int),(j:Int),false,bc (by
    simp (disch:=omega) only[zX,wH,un,rJ,cond_false])⟩
theorem abV {a b:Nat} {d:Array XE} (eP:a<b) (hb:b≤d.size) (hs:d.size<1152921504606846976):
  CC DC [.int .i64 (a:Int),.int .i64 (b:Int),.list aa (eA d)]=some [.list aa (eA (reverseRange d a b))]:=by
 refine abP ?_
 unfold QA
 obtain ⟨x,y,z,h⟩:=abU _ a (b-1) d (b6 _) (by omega) hs
 simp (disch:=omega) only[jR,wrap64]
 rw[h]
 rfl
end Go.AM.SX
set_option maxRecDepth 100000
namespace Go.AM
open Go.Proofs
noncomputable abbrev pb:Code:=cJ Try.prog (ay.aY 118)
noncomputable def zY (C:ag) (a j:Int) (ak:List V) (i:Int) {β:Type} (kn:Int→Option β) (kr:(Int × Bool)→Option β):Option β:=
 bif decide ((i:Int)≤j) then
  bif (decide (0≤i))&&(decide (i<(ak.length:Int))) then
  (ak[(i:Int).toNat]?).bind fun x5=>
  bif (decide (0≤a))&&(decide (a<(ak.length:Int))) then
   (ak[(a:Int).toNat]?).bind fun x6=>
   (C aZ [.int .i64 ((x5.cell 0).toInt),.int .i64 ((x5.cell 1).toInt),.list aa ((x5.cell 2).toList),.int .i64 ((x6.cell 0).toInt),.int .i64 ((x6.cell 1).toInt),.list aa ((x6.cell 2).toList)]).bind fun r7=>
   bif decide ((((V.nth r7 0).toInt):Int)<0) then
   kn (IntKind.wrap .i64 (i+1))
   else
   kr (i,decide ((((V.nth r7 0).toInt):Int)<0))
  else none
  else none
 else
  kr (i,false)
noncomputable def zZ (C:ag) (a j:Int) (ak:List V):(Int)→Option ((Int) ⊕ (Int × Bool)):=fun i=>zY C a j ak i (fun y=>some (.inl y)) (fun r=>some (.inr r))
noncomputable def wI (C:ag) (a i:Int) (ak:List V) (j:Int) {β:Type} (kn:Int→Option β) (kr:(Int × Bool)→Option β):Option β:=
 bif decide ((i:Int)≤j) then
  bif (decide (0≤j))&&(decide (j<(ak.length:Int))) then
  (ak[(j:Int).toNat]?).bind fun mY=>
  bif (decide (0≤a))&&(decide (a<(ak.length:Int))) then
   (ak[(a:Int).toNat]?).bind fun eI=>
   (C aZ [.int .i64 ((mY.cell 0).toInt),.int .i64 ((mY.cell 1).toInt),.list aa ((mY.cell 2).toList),.int .i64 ((eI.cell 0).toInt),.int .i64 ((eI.cell 1).toInt),.list aa ((eI.cell 2).toList)]).bind fun fy=>
   bif !(decide ((((V.nth fy 0).toInt):Int)<0)) then
   kn (IntKind.wrap .i64 (j-1))
   else
   kr (j,!(decide ((((V.nth fy 0).toInt):Int)<0)))
  else none
  else none
 else
  kr (j,false)
noncomputable def wJ (C:ag) (a i:Int) (ak:List V):(Int)→Option ((Int) ⊕ (Int × Bool)):=fun j=>wI C a i ak j (fun y=>some (.inl y)) (fun r=>some (.inr r))
noncomputable def z0 (C:ag) (a j:Int) (ak:List V) (i:Int) {β:Type} (kn:Int→Option β) (kr:(Int × Bool)→Option β):Option β:=
 bif decide ((i:Int)≤j) then
  bif (decide (0≤i))&&(decide (i<(ak.length:Int))) then
  (ak[(i:Int).toNat]?).bind fun js=>
  bif (decide (0≤a))&&(decide (a<(ak.length:Int))) then
   (ak[(a:Int).toNat]?).bind fun tS=>
   (C aZ [.int .i64 ((js.cell 0).toInt),.int .i64 ((js.cell 1).toInt),.list aa ((js.cell 2).toList),.int .i64 ((tS.cell 0).toInt),.int .i64 ((tS.cell 1).toInt),.list aa ((tS.cell 2).toList)]).bind fun QG=>
   bif decide ((((V.nth QG 0).toInt):Int)<0) then
   kn (IntKind.wrap .i64 (i+1))
   else
   kr (i,decide ((((V.nth QG 0).toInt):Int)<0))
  else none
  else none
 else
  kr (i,false)
noncomputable def z5 (C:ag) (a j:Int) (ak:List V):(Int)→Option ((Int) ⊕ (Int × Bool)):=fun i=>z0 C a j ak i (fun y=>some (.inl y)) (fun r=>some (.inr r))
noncomputable def wK (C:ag) (a i:Int) (ak:List V) (j:Int) {β:Type} (kn:Int→Option β) (kr:(Int × Bool)→Option β):Option β:=
 bif decide ((i:Int)≤j) then
  bif (decide (0≤j))&&(decide (j<(ak.length:Int))) then
  (ak[(j:Int).toNat]?).bind fun tT=>
  bif (decide (0≤a))&&(decide (a<(ak.length:Int))) then
   (ak[(a:Int).toNat]?).bind fun tU=>
   (C aZ [.int .i64 ((tT.cell 0).toInt),.int .i64 ((tT.cell 1).toInt),.list aa ((tT.cell 2).toList),.int .i64 ((tU.cell 0).toInt),.int .i64 ((tU.cell 1).toInt),.list aa ((tU.cell 2).toList)]).bind fun Eh=>
   bif !(decide ((((V.nth Eh 0).toInt):Int)<0)) then
   kn (IntKind.wrap .i64 (j-1))
   else
   kr (j,!(decide ((((V.nth Eh 0).toInt):Int)<0)))
  else none
  else none
 else
  kr (j,false)
noncomputable def wL (C:ag) (a i:Int) (ak:List V):(Int)→Option ((Int) ⊕ (Int × Bool)):=fun j=>wK C a i ak j (fun y=>some (.inl y)) (fun r=>some (.inr r))
noncomputable def z6 (C:ag) (a i j:Int) (ak:List V) {β:Type} (kn:(Int × Int × (List V))→Option β) (kr:(Int × Int × Bool × (List V))→Option β):Option β:=
 (Loop (z5 C a j ak) i).bind (un fun (ll:Int) (O4:Bool)=>
  (Loop (wL C a ll ak) j).bind (un fun (og:Int) (Yx:Bool)=>
   bif decide ((ll:Int)>og) then
    kr (ll,og,decide ((ll:Int)>og),ak)
   else
    bif (decide (0≤og))&&(decide (og<(ak.length:Int))) then
    (ak[(og:Int).toNat]?).bind fun qu=>
    bif (decide (0≤ll))&&(decide (ll<(ak.length:Int))) then
     (ak[(ll:Int).toNat]?).bind fun Jt=>
     bif (decide (0≤ll))&&(decide (ll<(ak.length:Int))) then
     (ak[(ll:Int).toNat]?).bind fun x35=>
     bif (decide (0≤og))&&(decide (og<((ak.set ((ll:Int).toNat) (.agg [.int .i64 ((qu.cell 0).toInt),.int .i64 ((qu.cell 1).toInt),.list aa ((qu.cell 2).toList)])).length:Int))) then
      ((ak.set ((ll:Int).toNat) (.agg [.int .i64 ((qu.cell 0).toInt),.int .i64 ((qu.cell 1).toInt),.list aa ((qu.cell 2).toList)]))[(og:Int).toNat]?).bind fun x36=>
      kn (IntKind.wrap .i64 (ll+1),IntKind.wrap .i64 (og-1),(ak.set ((ll:Int).toNat) (.agg [.int .i64 ((qu.cell 0).toInt),.int .i64 ((qu.cell 1).toInt),.list aa ((qu.cell 2).toList)])).set ((og:Int).toNat) (.agg [.int .i64 ((Jt.cell 0).toInt),.int .i64 ((Jt.cell 1).toInt),.list aa ((Jt.cell 2).toList)]))
     else none
     else none
    else none
    else none))
noncomputable def wM (C:ag) (a:Int):(Int × Int × (List V))→Option ((Int × Int × (List V)) ⊕ (Int × Int × Bool × (List V))):=un fun i=>un fun j ak=>z6 C a i j ak (fun y=>some (.inl y)) (fun r=>some (.inr r))
noncomputable def QH (C:ag):cy:=fun β n ds k=>
 bif Nat.beq n 49 then cj IE [false,true,false,false] [[1,0,3,0,4]] (@zY C) ds k else
 bif Nat.beq n 81 then cj IF [false,false,true,false] [[1,2,0,0,4]] (@wI C) ds k else
 bif Nat.beq n 209 then cj IG [false,true,false,false] [[1,0,3,0,4]] (@z0 C) ds k else
 bif Nat.beq n 241 then cj IH [false,false,true,false] [[1,2,0,0,4]] (@wK C) ds k else
 bif Nat.beq n 210 then cj II [false,true,true,true] [[1,0,0,0,0]] (@z6 C) ds k else
 none
abbrev z7 (C:ag) (b:cu):Prop:=cv Try.prog ay C (QH C) 118 (cM Try.prog (ay.aY 118)) (ay.sin 118).a8.length b
theorem abW (C:ag):z7 C (.loop (aw [1,1,1,0,0,0] pb)):=
 cw IE [false,true,false,false] [[1,0,3,0,4]] (@zY C) (by kernel_rfl) (bf (bs:=[]) (by kernel_rfl) av) (fun ds=>by kernel_rfl) (fun i x=>by kernel_rfl) (fun i x β k=>by kernel_rfl) (fun β ds k=>by kernel_rfl)
theorem abY (C:ag):z7 C (.loop (aw [1,1,1,1,0,0,0] pb)):=
 cw IF [false,false,true,false] [[1,2,0,0,4]] (@wI C) (by kernel_rfl) (bf (bs:=[]) (by kernel_rfl) av) (fun ds=>by kernel_rfl) (fun i x=>by kernel_rfl) (fun i x β k=>by kernel_rfl) (fun β ds k=>by kernel_rfl)
theorem abZ (C:ag):z7 C (.loop (aw [1,1,1,1,1,1,1,1,1,0,0,0,0,0,0,0] pb)):=
 cw IG [false,true,false,false] [[1,0,3,0,4]] (@z0 C) (by kernel_rfl) (bf (bs:=[]) (by kernel_rfl) av) (fun ds=>by kernel_rfl) (fun i x=>by kernel_rfl) (fun i x β k=>by kernel_rfl) (fun β ds k=>by kernel_rfl)
theorem ab0 (C:ag):z7 C (.loop (aw [1,1,1,1,1,1,1,1,1,0,0,0,0,1,0,0,0] pb)):=
 cw IH [false,false,true,false] [[1,2,0,0,4]] (@wK C) (by kernel_rfl) (bf (bs:=[]) (by kernel_rfl) av) (fun ds=>by kernel_rfl) (fun i x=>by kernel_rfl) (fun i x β k=>by kernel_rfl) (fun β ds k=>by kernel_rfl)
theorem ab1 (C:ag):z7 C (.loop (aw [1,1,1,1,1,1,1,1,1,0,0,0] pb)):=
 cw II [false,true,true,true] [[1,0,0,0,0]] (@z6 C) (by kernel_rfl) (bf (bs:=[.loop (aw [1,1,1,1,1,1,1,1,1,0,0,0,0,0,0,0] pb),.loop (aw [1,1,1,1,1,1,1,1,1,0,0,0,0,1,0,0,0] pb)]) (by kernel_rfl) (bG (abZ C) (bG (ab0 C) av))) (fun ds=>by kernel_rfl) (fun i x=>by kernel_rfl) (fun i x β k=>by kernel_rfl) (fun β ds k=>by kernel_rfl)
noncomputable def QI (C:ag) (a b' pivot:Int) (ak:List V):Option (List V):=
 bif (decide (0≤pivot))&&(decide (pivot<(ak.length:Int))) then
  (ak[(pivot:Int).toNat]?).bind fun x1=>
  bif (decide (0≤a))&&(decide (a<(ak.length:Int))) then
  (ak[(a:Int).toNat]?).bind fun x2=>
  bif (decide (0≤a))&&(decide (a<(ak.length:Int))) then
   (ak[(a:Int).toNat]?).bind fun x3=>
   bif (decide (0≤pivot))&&(decide (pivot<((ak.set ((a:Int).toNat) (.agg [.int .i64 ((x1.cell 0).toInt),.int .i64 ((x1.cell 1).toInt),.list aa ((x1.cell 2).toList)])).length:Int))) then
   ((ak.set ((a:Int).toNat) (.agg [.int .i64 ((x1.cell 0).toInt),.int .i64 ((x1.cell 1).toInt),.list aa ((x1.cell 2).toList)]))[(pivot:Int).toNat]?).bind fun x4=>
   (Loop (zZ C a (IntKind.wrap .i64 (b'-1)) ((ak.set ((a:Int).toNat) (.agg [.int .i64 ((x1.cell 0).toInt),.int .i64 ((x1.cell 1).toInt),.list aa ((x1.cell 2).toList)])).set ((pivot:Int).toNat) (.agg [.int .i64 ((x2.cell 0).toInt),.int .i64 ((x2.cell 1).toInt),.list aa ((x2.cell 2).toList)]))) (IntKind.wrap .i64 (a+1))).bind (un fun (eJ:Int) (rE:Bool)=>
    (Loop (wJ C a eJ ((ak.set ((a:Int).toNat) (.agg [.int .i64 ((x1.cell 0).toInt),.int .i64 ((x1.cell 1).toInt),.list aa ((x1.cell 2).toList)])).set ((pivot:Int).toNat) (.agg [.int .i64 ((x2.cell 0).toInt),.int .i64 ((x2.cell 1).toInt),.list aa ((x2.cell 2).toList)]))) (IntKind.wrap .i64 (b'-1))).bind (un fun (ed:Int) (zz:Bool)=>
     bif decide ((eJ:Int)>ed) then
      bif (decide (0≤a))&&(decide (a<(((ak.set ((a:Int).toNat) (.agg [.int .i64 ((x1.cell 0).toInt),.int .i64 ((x1.cell 1).toInt),.list aa ((x1.cell 2).toList)])).set ((pivot:Int).toNat) (.agg [.int .i64 ((x2.cell 0).toInt),.int .i64 ((x2.cell 1).toInt),.list aa ((x2.cell 2).toList)])).length:Int))) then
      (((ak.set ((a:Int).toNat) (.agg [.int .i64 ((x1.cell 0).toInt),.int .i64 ((x1.cell 1).toInt),.list aa ((x1.cell 2).toList)])).set ((pivot:Int).toNat) (.agg [.int .i64 ((x2.cell 0).toInt),.int .i64 ((x2.cell 1).toInt),.list aa ((x2.cell 2).toList)]))[(a:Int).toNat]?).bind fun fA=>
      bif (decide (0≤ed))&&(decide (ed<(((ak.set ((a:Int).toNat) (.agg [.int .i64 ((x1.cell 0).toInt),.int .i64 ((x1.cell 1).toInt),.list aa ((x1.cell 2).toList)])).set ((pivot:Int).toNat) (.agg [.int .i64 ((x2.cell 0).toInt),.int .i64 ((x2.cell 1).toInt),.list aa ((x2.cell 2).toList)])).length:Int))) then
       (((ak.set ((a:Int).toNat) (.agg [.int .i64 ((x1.cell 0).toInt),.int .i64 ((x1.cell 1).toInt),.list aa ((x1.cell 2).toList)])).set ((pivot:Int).toNat) (.agg [.int .i64 ((x2.cell 0).toInt),.int .i64 ((x2.cell 1).toInt),.list aa ((x2.cell 2).toList)]))[(ed:Int).toNat]?).bind fun gd=>
       bif (decide (0≤ed))&&(decide (ed<(((ak.set ((a:Int).toNat) (.agg [.int .i64 ((x1.cell 0).toInt),.int .i64 ((x1.cell 1).toInt),.list aa ((x1.cell 2).toList)])).set ((pivot:Int).toNat) (.agg [.int .i64 ((x2.cell 0).toInt),.int .i64 ((x2.cell 1).toInt),.list aa ((x2.cell 2).toList)])).length:Int))) then
       (((ak.set ((a:Int).toNat) (.agg [.int .i64 ((x1.cell 0).toInt),.int .i64 ((x1.cell 1).toInt),.list aa ((x1.cell 2).toList)])).set ((pivot:Int).toNat) (.agg [.int .i64 ((x2.cell 0).toInt),.int .i64 ((x2.cell 1).toInt),.list aa ((x2.cell 2).toList)]))[(ed:Int).toNat]?).bind fun qq=>
       bif (decide (0≤a))&&(decide (a<((((ak.set ((a:Int).toNat) (.agg [.int .i64 ((x1.cell 0).toInt),.int .i64 ((x1.cell 1).toInt),.list aa ((x1.cell 2).toList)])).set ((pivot:Int).toNat) (.agg [.int .i64 ((x2.cell 0).toInt),.int .i64 ((x2.cell 1).toInt),.list aa ((x2.cell 2).toList)])).set ((ed:Int).toNat) (.agg [.int .i64 ((fA.cell 0).toInt),.int .i64 ((fA.cell 1).toInt),.list aa ((fA.cell 2).toList)])).length:Int))) then
        ((((ak.set ((a:Int).toNat) (.agg [.int .i64 ((x1.cell 0).toInt),.int .i64 ((x1.cell 1).toInt),.list aa ((x1.cell 2).toList)])).set ((pivot:Int).toNat) (.agg [.int .i64 ((x2.cell 0).toInt),.int .i64 ((x2.cell 1).toInt),.list aa ((x2.cell 2).toList)])).set ((ed:Int).toNat) (.agg [.int .i64 ((fA.cell 0).toInt),.int .i64 ((fA.cell 1).toInt),.list aa ((fA.cell 2).toList)]))[(a:Int).toNat]?).bind fun wG=>
        some [.int .i64 ed,.bool true,.list aa ((((ak.set ((a:Int).toNat) (.agg [.int .i64 ((x1.cell 0).toInt),.int .i64 ((x1.cell 1).toInt),.list aa ((x1.cell 2).toList)])).set ((pivot:Int).toNat) (.agg [.int .i64 ((x2.cell 0).toInt),.int .i64 ((x2.cell 1).toInt),.list aa ((x2.cell 2).toList)])).set ((ed:Int).toNat) (.agg [.int .i64 ((fA.cell 0).toInt),.int .i64 ((fA.cell 1).toInt),.list aa ((fA.cell 2).toList)])).set ((a:Int).toNat) (.agg [.int .i64 ((gd.cell 0).toInt),.int .i64 ((gd.cell 1).toInt),.list aa ((gd.cell 2).toList)]))]
       else none
       else none
      else none
      else none
     else
      bif (decide (0≤ed))&&(decide (ed<(((ak.set ((a:Int).toNat) (.agg [.int .i64 ((x1.cell 0).toInt),.int .i64 ((x1.cell 1).toInt),.list aa ((x1.cell 2).toList)])).set ((pivot:Int).toNat) (.agg [.int .i64 ((x2.cell 0).toInt),.int .i64 ((x2.cell 1).toInt),.list aa ((x2.cell 2).toList)])).length:Int))) then
      (((ak.set ((a:Int).toNat) (.agg [.int .i64 ((x1.cell 0).toInt),.int .i64 ((x1.cell 1).toInt),.list aa ((x1.cell 2).toList)])).set ((pivot:Int).toNat) (.agg [.int .i64 ((x2.cell 0).toInt),.int .i64 ((x2.cell 1).toInt),.list aa ((x2.cell 2).toList)]))[(ed:Int).toNat]?).bind fun o9=>
      bif (decide (0≤eJ))&&(decide (eJ<(((ak.set ((a:Int).toNat) (.agg [.int .i64 ((x1.cell 0).toInt),.int .i64 ((x1.cell 1).toInt),.list aa ((x1.cell 2).toList)])).set ((pivot:Int).toNat) (.agg [.int .i64 ((x2.cell 0).toInt),.int .i64 ((x2.cell 1).toInt),.list aa ((x2.cell 2).toList)])).length:Int))) then
       (((ak.set ((a:Int).toNat) (.agg [.int .i64 ((x1.cell 0).toInt),.int .i64 ((x1.cell 1).toInt),.list aa ((x1.cell 2).toList)])).set ((pivot:Int).toNat) (.agg [.int .i64 ((x2.cell 0).toInt),.int .i64 ((x2.cell 1).toInt),.list aa ((x2.cell 2).toList)]))[(eJ:Int).toNat]?).bind fun tV=>
       bif (decide (0≤eJ))&&(decide (eJ<(((ak.set ((a:Int).toNat) (.agg [.int .i64 ((x1.cell 0).toInt),.int .i64 ((x1.cell 1).toInt),.list aa ((x1.cell 2).toList)])).set ((pivot:Int).toNat) (.agg [.int .i64 ((x2.cell 0).toInt),.int .i64 ((x2.cell 1).toInt),.list aa ((x2.cell 2).toList)])).length:Int))) then
       (((ak.set ((a:Int).toNat) (.agg [.int .i64 ((x1.cell 0).toInt),.int .i64 ((x1.cell 1).toInt),.list aa ((x1.cell 2).toList)])).set ((pivot:Int).toNat) (.agg [.int .i64 ((x2.cell 0).toInt),.int .i64 ((x2.cell 1).toInt),.list aa ((x2.cell 2).toList)]))[(eJ:Int).toNat]?).bind fun Ei=>
       bif (decide (0≤ed))&&(decide (ed<((((ak.set ((a:Int).toNat) (.agg [.int .i64 ((x1.cell 0).toInt),.int .i64 ((x1.cell 1).toInt),.list aa ((x1.cell 2).toList)])).set ((pivot:Int).toNat) (.agg [.int .i64 ((x2.cell 0).toInt),.int .i64 ((x2.cell 1).toInt),.list aa ((x2.cell 2).toList)])).set ((eJ:Int).toNat) (.agg [.int .i64 ((o9.cell 0).toInt),.int .i64 ((o9.cell 1).toInt),.list aa ((o9.cell 2).toList)])).length:Int))) then
        ((((ak.set ((a:Int).toNat) (.agg [.int .i64 ((x1.cell 0).toInt),.int .i64 ((x1.cell 1).toInt),.list aa ((x1.cell 2).toList)])).set ((pivot:Int).toNat) (.agg [.int .i64 ((x2.cell 0).toInt),.int .i64 ((x2.cell 1).toInt),.list aa ((x2.cell 2).toList)])).set ((eJ:Int).toNat) (.agg [.int .i64 ((o9.cell 0).toInt),.int .i64 ((o9.cell 1).toInt),.list aa ((o9.cell 2).toList)]))[(ed:Int).toNat]?).bind fun x22=>
        (Loop (wM C a) (IntKind.wrap .i64 (eJ+1),IntKind.wrap .i64 (ed-1),(((ak.set ((a:Int).toNat) (.agg [.int .i64 ((x1.cell 0).toInt),.int .i64 ((x1.cell 1).toInt),.list aa ((x1.cell 2).toList)])).set ((pivot:Int).toNat) (.agg [.int .i64 ((x2.cell 0).toInt),.int .i64 ((x2.cell 1).toInt),.list aa ((x2.cell 2).toList)])).set ((eJ:Int).toNat) (.agg [.int .i64 ((o9.cell 0).toInt),.int .i64 ((o9.cell 1).toInt),.list aa ((o9.cell 2).toList)])).set ((ed:Int).toNat) (.agg [.int .i64 ((tV.cell 0).toInt),.int .i64 ((tV.cell 1).toInt),.list aa ((tV.cell 2).toList)]))).bind (un fun (Y7:Int)=>un fun (pc:Int)=>un fun (Pb:Bool) (jt:List V)=>
         bif (decide (0≤a))&&(decide (a<(jt.length:Int))) then
         (jt[(a:Int).toNat]?).bind fun ma=>
         bif (decide (0≤pc))&&(decide (pc<(jt.length:Int))) then
          (jt[(pc:Int).toNat]?).bind fun tW=>
          bif (decide (0≤pc))&&(decide (pc<(jt.length:Int))) then
          (jt[(pc:Int).toNat]?).bind fun x43=>
          bif (decide (0≤a))&&(decide (a<((jt.set ((pc:Int).toNat) (.agg [.int .i64 ((ma.cell 0).toInt),.int .i64 ((ma.cell 1).toInt),.list aa ((ma.cell 2).toList)])).length:Int))) then
           ((jt.set ((pc:Int).toNat) (.agg [.int .i64 ((ma.cell 0).toInt),.int .i64 ((ma.cell 1).toInt),.list aa ((ma.cell 2).toList)]))[(a:Int).toNat]?).bind fun x44=>
           some [.int .i64 pc,.bool false,.list aa ((jt.set ((pc:Int).toNat) (.agg [.int .i64 ((ma.cell 0).toInt),.int .i64 ((ma.cell 1).toInt),.list aa ((ma.cell 2).toList)])).set ((a:Int).toNat) (.agg [.int .i64 ((tW.cell 0).toInt),.int .i64 ((tW.cell 1).toInt),.list aa ((tW.cell 2).toList)]))]
          else none
          else none
         else none
         else none)
       else none
       else none
      else none
      else none))
   else none
  else none
  else none
 else none
theorem ab2 {a b' pivot:Int} {ak:List V} {r:Option (List V)} (h:QI CC a b' pivot ak=r):CC mP [.int .i64 a,.int .i64 b',.int .i64 pivot,.list aa ak]=r:=
 a9 (key:=118) (L:=QH CC) (bs:=[.loop (aw [1,1,1,0,0,0] pb),.loop (aw [1,1,1,1,0,0,0] pb),.loop (aw [1,1,1,1,1,1,1,1,1,0,0,0] pb)]) (by kernel_rfl) (bG (abW CC) (bG (abY CC) (bG (ab1 CC) av))) (aW (by kernel_rfl) h)
noncomputable abbrev wO:Code:=cJ Try.prog (ay.aY 117)
noncomputable def z8 (C:ag) (a j:Int) (ak:List V) (i:Int) {β:Type} (kn:Int→Option β) (kr:(Int × Bool)→Option β):Option β:=
 bif decide ((i:Int)≤j) then
  bif (decide (0≤a))&&(decide (a<(ak.length:Int))) then
  (ak[(a:Int).toNat]?).bind fun x5=>
  bif (decide (0≤i))&&(decide (i<(ak.length:Int))) then
   (ak[(i:Int).toNat]?).bind fun x6=>
   (C aZ [.int .i64 ((x5.cell 0).toInt),.int .i64 ((x5.cell 1).toInt),.list aa ((x5.cell 2).toList),.int .i64 ((x6.cell 0).toInt),.int .i64 ((x6.cell 1).toInt),.list aa ((x6.cell 2).toList)]).bind fun r7=>
   bif !(decide ((((V.nth r7 0).toInt):Int)<0)) then
   kn (IntKind.wrap .i64 (i+1))
   else
   kr (i,!(decide ((((V.nth r7 0).toInt):Int)<0)))
  else none
  else none
 else
  kr (i,false)
noncomputable def z9 (C:ag) (a j:Int) (ak:List V):(Int)→Option ((Int) ⊕ (Int × Bool)):=fun i=>z8 C a j ak i (fun y=>some (.inl y)) (fun r=>some (.inr r))
noncomputable def wP (C:ag) (a i:Int) (ak:List V) (j:Int) {β:Type} (kn:Int→Option β) (kr:(Int × Bool)→Option β):Option β:=
 bif decide ((i:Int)≤j) then
  bif (decide (0≤a))&&(decide (a<(ak.length:Int))) then
  (ak[(a:Int).toNat]?).bind fun mY=>
  bif (decide (0≤j))&&(decide (j<(ak.length:Int))) then
   (ak[(j:Int).toNat]?).bind fun eI=>
   (C aZ [.int .i64 ((mY.cell 0).toInt),.int .i64 ((mY.cell 1).toInt),.list aa ((mY.cell 2).toList),.int .i64 ((eI.cell 0).toInt),.int .i64 ((eI.cell 1).toInt),.list aa ((eI.cell 2).toList)]).bind fun fy=>
   bif decide ((((V.nth fy 0).toInt):Int)<0) then
   kn (IntKind.wrap .i64 (j-1))
   else
   kr (j,decide ((((V.nth fy 0).toInt):Int)<0))
  else none
  else none
 else
  kr (j,false)
noncomputable def wQ (C:ag) (a i:Int) (ak:List V):(Int)→Option ((Int) ⊕ (Int × Bool)):=fun j=>wP C a i ak j (fun y=>some (.inl y)) (fun r=>some (.inr r))
noncomputable def Aa (C:ag) (a i j:Int) (ak:List V) {β:Type} (kn:(Int × Int × (List V))→Option β) (kr:(Int × Int × Bool × (List V))→Option β):Option β:=
 (Loop (z9 C a j ak) i).bind (un fun (eJ:Int) (rE:Bool)=>
  (Loop (wQ C a eJ ak) j).bind (un fun (ed:Int) (zz:Bool)=>
   bif decide ((eJ:Int)>ed) then
    kr (eJ,ed,decide ((eJ:Int)>ed),ak)
   else
    bif (decide (0≤ed))&&(decide (ed<(ak.length:Int))) then
    (ak[(ed:Int).toNat]?).bind fun fA=>
    bif (decide (0≤eJ))&&(decide (eJ<(ak.length:Int))) then
     (ak[(eJ:Int).toNat]?).bind fun gd=>
     bif (decide (0≤eJ))&&(decide (eJ<(ak.length:Int))) then
     (ak[(eJ:Int).toNat]?).bind fun qq=>
     bif (decide (0≤ed))&&(decide (ed<((ak.set ((eJ:Int).toNat) (.agg [.int .i64 ((fA.cell 0).toInt),.int .i64 ((fA.cell 1).toInt),.list aa ((fA.cell 2).toList)])).length:Int))) then
      ((ak.set ((eJ:Int).toNat) (.agg [.int .i64 ((fA.cell 0).toInt),.int .i64 ((fA.cell 1).toInt),.list aa ((fA.cell 2).toList)]))[(ed:Int).toNat]?).bind fun wG=>
      kn (IntKind.wrap .i64 (eJ+1),IntKind.wrap .i64 (ed-1),(ak.set ((eJ:Int).toNat) (.agg [.int .i64 ((fA.cell 0).toInt),.int .i64 ((fA.cell 1).toInt),.list aa ((fA.cell 2).toList)])).set ((ed:Int).toNat) (.agg [.int .i64 ((gd.cell 0).toInt),.int .i64 ((gd.cell 1).toInt),.list aa ((gd.cell 2).toList)]))
     else none
     else none
    else none
    else none))
noncomputable def wR (C:ag) (a:Int):(Int × Int × (List V))→Option ((Int × Int × (List V)) ⊕ (Int × Int × Bool × (List V))):=un fun i=>un fun j ak=>Aa C a i j ak (fun y=>some (.inl y)) (fun r=>some (.inr r))
noncomputable def QJ (C:ag):cy:=fun β n ds k=>
 bif Nat.beq n 49 then cj IB [false,true,false,false] [[1,0,3,0,4]] (@z8 C) ds k else
 bif Nat.beq n 81 then cj IC [false,false,true,false] [[1,2,0,0,4]] (@wP C) ds k else
 bif Nat.beq n 50 then cj ID [false,true,true,true] [[1,0,0,0,0]] (@Aa C) ds k else
 none
abbrev Ju (C:ag) (b:cu):Prop:=cv Try.prog ay C (QJ C) 117 (cM Try.prog (ay.aY 117)) (ay.sin 117).a8.length b
theorem ab3 (C:ag):Ju C (.loop (aw [1,1,1,0,0,0,0,0,0,0] wO)):=
 cw IB [false,true,false,false] [[1,0,3,0,4]] (@z8 C) (by kernel_rfl) (bf (bs:=[]) (by kernel_rfl) av) (fun ds=>by kernel_rfl) (fun i x=>by kernel_rfl) (fun i x β k=>by kernel_rfl) (fun β ds k=>by kernel_rfl)
theorem ab4 (C:ag):Ju C (.loop (aw [1,1,1,0,0,0,0,1,0,0,0] wO)):=
 cw IC [false,false,true,false] [[1,2,0,0,4]] (@wP C) (by kernel_rfl) (bf (bs:=[]) (by kernel_rfl) av) (fun ds=>by kernel_rfl) (fun i x=>by kernel_rfl) (fun i x β k=>by kernel_rfl) (fun β ds k=>by kernel_rfl)
theorem ab5 (C:ag):Ju C (.loop (aw [1,1,1,0,0,0] wO)):=
 cw ID [false,true,true,true] [[1,0,0,0,0]] (@Aa C) (by kernel_rfl) (bf (bs:=[.loop (aw [1,1,1,0,0,0,0,0,0,0] wO),.loop (aw [1,1,1,0,0,0,0,1,0,0,0] wO)]) (by kernel_rfl) (bG (ab3 C) (bG (ab4 C) av))) (fun ds=>by kernel_rfl) (fun i x=>by kernel_rfl) (fun i x β k=>by kernel_rfl) (fun β ds k=>by kernel_rfl)
noncomputable def QK (C:ag) (a b' pivot:Int) (ak:List V):Option (List V):=
 bif (decide (0≤pivot))&&(decide (pivot<(ak.length:Int))) then
  (ak[(pivot:Int).toNat]?).bind fun x1=>
  bif (decide (0≤a))&&(decide (a<(ak.length:Int))) then
  (ak[(a:Int).toNat]?).bind fun x2=>
  bif (decide (0≤a))&&(decide (a<(ak.length:Int))) then
   (ak[(a:Int).toNat]?).bind fun x3=>
   bif (decide (0≤pivot))&&(decide (pivot<((ak.set ((a:Int).toNat) (.agg [.int .i64 ((x1.cell 0).toInt),.int .i64 ((x1.cell 1).toInt),.list aa ((x1.cell 2).toList)])).length:Int))) then
   ((ak.set ((a:Int).toNat) (.agg [.int .i64 ((x1.cell 0).toInt),.int .i64 ((x1.cell 1).toInt),.list aa ((x1.cell 2).toList)]))[(pivot:Int).toNat]?).bind fun x4=>
   (Loop (wR C a) (IntKind.wrap .i64 (a+1),IntKind.wrap .i64 (b'-1),(ak.set ((a:Int).toNat) (.agg [.int .i64 ((x1.cell 0).toInt),.int .i64 ((x1.cell 1).toInt),.list aa ((x1.cell 2).toList)])).set ((pivot:Int).toNat) (.agg [.int .i64 ((x2.cell 0).toInt),.int .i64 ((x2.cell 1).toInt),.list aa ((x2.cell 2).toList)]))).bind (un fun (ab6:Int)=>un fun (aht:Int)=>un fun (IW:Bool) (ab7:List V)=>
    some [.int .i64 ab6,.list aa ab7])
   else none
  else none
  else none
 else none
theorem ab8 {a b' pivot:Int} {ak:List V} {r:Option (List V)} (h:QK CC a b' pivot ak=r):CC tx [.int .i64 a,.int .i64 b',.int .i64 pivot,.list aa ak]=r:=
 a9 (key:=117) (L:=QJ CC) (bs:=[.loop (aw [1,1,1,0,0,0] wO)]) (by kernel_rfl) (bG (ab5 CC) av) (aW (by kernel_rfl) h)
noncomputable abbrev m8:Code:=cJ Try.prog (ay.aY 116)
noncomputable def Ab (C:ag) (a b' j:Int) (ak:List V) (i:Int) {β:Type} (kn:Int→Option β) (kr:(Int × Bool)→Option β):Option β:=
 bif decide ((i:Int)<b') then
  bif (decide (0≤i))&&(decide (i<(ak.length:Int))) then
  (ak[(i:Int).toNat]?).bind fun x1=>
  bif (decide (0≤(IntKind.wrap .i64 (i-1))))&&(decide ((IntKind.wrap .i64 (i-1))<(ak.length:Int))) then
   (ak[(IntKind.wrap .i64 (i-1):Int).toNat]?).bind fun x2=>
   (C aZ [.int .i64 ((x1.cell 0).toInt),.int .i64 ((x1.cell 1).toInt),.list aa ((x1.cell 2).toList),.int .i64 ((x2.cell 0).toInt),.int .i64 ((x2.cell 1).toInt),.list aa ((x2.cell 2).toList)]).bind fun r3=>
   bif !(decide ((((V.nth r3 0).toInt):Int)<0)) then
   kn (IntKind.wrap .i64 (i+1))
   else
   kr (i,!(decide ((((V.nth r3 0).toInt):Int)<0)))
  else none
  else none
 else
  kr (i,false)
noncomputable def Ac (C:ag) (a b' j:Int) (ak:List V):(Int)→Option ((Int) ⊕ (Int × Bool)):=fun i=>Ab C a b' j ak i (fun y=>some (.inl y)) (fun r=>some (.inr r))
noncomputable def Ad (C:ag) (a b' i j j':Int) (ak:List V) {β:Type} (kn:(Int × (List V))→Option β) (kr:(Int × (List V))→Option β):Option β:=
 bif decide ((j':Int)≥1) then
  bif (decide (0≤j'))&&(decide (j'<(ak.length:Int))) then
  (ak[(j':Int).toNat]?).bind fun mY=>
  bif (decide (0≤(IntKind.wrap .i64 (j'-1))))&&(decide ((IntKind.wrap .i64 (j'-1))<(ak.length:Int))) then
   (ak[(IntKind.wrap .i64 (j'-1):Int).toNat]?).bind fun eI=>
   (C aZ [.int .i64 ((mY.cell 0).toInt),.int .i64 ((mY.cell 1).toInt),.list aa ((mY.cell 2).toList),.int .i64 ((eI.cell 0).toInt),.int .i64 ((eI.cell 1).toInt),.list aa ((eI.cell 2).toList)]).bind fun fy=>
   bif !(decide ((((V.nth fy 0).toInt):Int)<0)) then
   kr (j',ak)
   else
   bif (decide (0≤(IntKind.wrap .i64 (j'-1))))&&(decide ((IntKind.wrap .i64 (j'-1))<(ak.length:Int))) then
    (ak[(IntKind.wrap .i64 (j'-1):Int).toNat]?).bind fun jr=>
    bif (decide (0≤j'))&&(decide (j'<(ak.length:Int))) then
    (ak[(j':Int).toNat]?).bind fun m7=>
    bif (decide (0≤j'))&&(decide (j'<(ak.length:Int))) then
     (ak[(j':Int).toNat]?).bind fun fA=>
     bif (decide (0≤(IntKind.wrap .i64 (j'-1))))&&(decide ((IntKind.wrap .i64 (j'-1))<((ak.set ((j':Int).toNat) (.agg [.int .i64 ((jr.cell 0).toInt),.int .i64 ((jr.cell 1).toInt),.list aa ((jr.cell 2).toList)])).length:Int))) then
     ((ak.set ((j':Int).toNat) (.agg [.int .i64 ((jr.cell 0).toInt),.int .i64 ((jr.cell 1).toInt),.list aa ((jr.cell 2).toList)]))[(IntKind.wrap .i64 (j'-1):Int).toNat]?).bind fun gd=>
     kn (IntKind.wrap .i64 (j'-1),(ak.set ((j':Int).toNat) (.agg [.int .i64 ((jr.cell 0).toInt),.int .i64 ((jr.cell 1).toInt),.list aa ((jr.cell 2).toList)])).set ((IntKind.wrap .i64 (j'-1):Int).toNat) (.agg [.int .i64 ((m7.cell 0).toInt),.int .i64 ((m7.cell 1).toInt),.list aa ((m7.cell 2).toList)]))
     else none
    else none
    else none
   else none
  else none
  else none
 else
  kr (j',ak)
noncomputable def Ae (C:ag) (a b' i j:Int):(Int × (List V))→Option ((Int × (List V)) ⊕ (Int × (List V))):=un fun j' ak=>Ad C a b' i j j' ak (fun y=>some (.inl y)) (fun r=>some (.inr r))
noncomputable def Ej (C:ag) (a b' i j:Int) (t65:Bool) (ak:List V) {β:Type} (kr:(List V)→Option β):Option β:=
 bif t65 then
  (Loop (Ae C a b' i j) (IntKind.wrap .i64 (i-1),ak)).bind (un fun (ahu:Int) (ab9:List V)=>
   kr ab9)
 else
  kr ak
noncomputable def Af (C:ag) (a b' i j j':Int) (ak:List V) {β:Type} (kn:(Int × (List V))→Option β) (kr:(Int × (List V))→Option β):Option β:=
 bif decide ((j':Int)<b') then
  bif (decide (0≤j'))&&(decide (j'<(ak.length:Int))) then
  (ak[(j':Int).toNat]?).bind fun tV=>
  bif (decide (0≤(IntKind.wrap .i64 (j'-1))))&&(decide ((IntKind.wrap .i64 (j'-1))<(ak.length:Int))) then
   (ak[(IntKind.wrap .i64 (j'-1):Int).toNat]?).bind fun Ei=>
   (C aZ [.int .i64 ((tV.cell 0).toInt),.int .i64 ((tV.cell 1).toInt),.list aa ((tV.cell 2).toList),.int .i64 ((Ei.cell 0).toInt),.int .i64 ((Ei.cell 1).toInt),.list aa ((Ei.cell 2).toList)]).bind fun jS=>
   bif !(decide ((((V.nth jS 0).toInt):Int)<0)) then
   kr (j',ak)
   else
   bif (decide (0≤(IntKind.wrap .i64 (j'-1))))&&(decide ((IntKind.wrap .i64 (j'-1))<(ak.length:Int))) then
    (ak[(IntKind.wrap .i64 (j'-1):Int).toNat]?).bind fun js=>
    bif (decide (0≤j'))&&(decide (j'<(ak.length:Int))) then
    (ak[(j':Int).toNat]?).bind fun tS=>
    bif (decide (0≤j'))&&(decide (j'<(ak.length:Int))) then
     (ak[(j':Int).toNat]?).bind fun x25=>
     bif (decide (0≤(IntKind.wrap .i64 (j'-1))))&&(decide ((IntKind.wrap .i64 (j'-1))<((ak.set ((j':Int).toNat) (.agg [.int .i64 ((js.cell 0).toInt),.int .i64 ((js.cell 1).toInt),.list aa ((js.cell 2).toList)])).length:Int))) then
     ((ak.set ((j':Int).toNat) (.agg [.int .i64 ((js.cell 0).toInt),.int .i64 ((js.cell 1).toInt),.list aa ((js.cell 2).toList)]))[(IntKind.wrap .i64 (j'-1):Int).toNat]?).bind fun x26=>
     kn (IntKind.wrap .i64 (j'+1),(ak.set ((j':Int).toNat) (.agg [.int .i64 ((js.cell 0).toInt),.int .i64 ((js.cell 1).toInt),.list aa ((js.cell 2).toList)])).set ((IntKind.wrap .i64 (j'-1):Int).toNat) (.agg [.int .i64 ((tS.cell 0).toInt),.int .i64 ((tS.cell 1).toInt),.list aa ((tS.cell 2).toList)]))
     else none
    else none
    else none
   else none
  else none
  else none
 else
  kr (j',ak)
noncomputable def Ag (C:ag) (a b' i j:Int):(Int × (List V))→Option ((Int × (List V)) ⊕ (Int × (List V))):=un fun j' ak=>Af C a b' i j j' ak (fun y=>some (.inl y)) (fun r=>some (.inr r))
noncomputable def Ah (C:ag) (a b' i j:Int) (ak:List V) {β:Type} (kn:(Int × Int × (List V))→Option β) (kr:((Bool × (List V)) ⊕ (Int × Int × Bool × (List V)))→Option β):Option β:=
 bif decide ((j:Int)<5) then
  (Loop (Ac C a b' j ak) i).bind (un fun (eV:Int) (o4:Bool)=>
   bif (eV:Int)==b' then
   kr (.inl (true,ak))
   else
   bif decide (((IntKind.wrap .i64 (b'-a)):Int)<50) then
    kr (.inl (false,ak))
   else
    bif (decide (0≤(IntKind.wrap .i64 (eV-1))))&&(decide ((IntKind.wrap .i64 (eV-1))<(ak.length:Int))) then
    (ak[(IntKind.wrap .i64 (eV-1):Int).toNat]?).bind fun x6=>
    bif (decide (0≤eV))&&(decide (eV<(ak.length:Int))) then
     (ak[(eV:Int).toNat]?).bind fun x7=>
     bif (decide (0≤eV))&&(decide (eV<(ak.length:Int))) then
     (ak[(eV:Int).toNat]?).bind fun x8=>
     bif (decide (0≤(IntKind.wrap .i64 (eV-1))))&&(decide ((IntKind.wrap .i64 (eV-1))<((ak.set ((eV:Int).toNat) (.agg [.int .i64 ((x6.cell 0).toInt),.int .i64 ((x6.cell 1).toInt),.list aa ((x6.cell 2).toList)])).length:Int))) then
      ((ak.set ((eV:Int).toNat) (.agg [.int .i64 ((x6.cell 0).toInt),.int .i64 ((x6.cell 1).toInt),.list aa ((x6.cell 2).toList)]))[(IntKind.wrap .i64 (eV-1):Int).toNat]?).bind fun x9=>
      Ej C a b' eV j (decide (((IntKind.wrap .i64 (eV-a)):Int)≥2)) ((ak.set ((eV:Int).toNat) (.agg [.int .i64 ((x6.cell 0).toInt),.int .i64 ((x6.cell 1).toInt),.list aa ((x6.cell 2).toList)])).set ((IntKind.wrap .i64 (eV-1):Int).toNat) (.agg [.int .i64 ((x7.cell 0).toInt),.int .i64 ((x7.cell 1).toInt),.list aa ((x7.cell 2).toList)])) (fun (QL:List V)=>
       bif decide (((IntKind.wrap .i64 (b'-eV)):Int)≥2) then
       (Loop (Ag C a b' eV j) (IntKind.wrap .i64 (eV+1),QL)).bind (un fun (ahv:Int) (aca:List V)=>
        kn (eV,IntKind.wrap .i64 (j+1),aca))
       else
       kn (eV,IntKind.wrap .i64 (j+1),QL))
     else none
     else none
    else none
    else none)
 else
  kr (.inr (i,j,decide ((j:Int)<5),ak))
noncomputable def rM (C:ag) (a b':Int):(Int × Int × (List V))→Option ((Int × Int × (List V)) ⊕ ((Bool × (List V)) ⊕ (Int × Int × Bool × (List V)))):=un fun i=>un fun j ak=>Ah C a b' i j ak (fun y=>some (.inl y)) (fun r=>some (.inr r))
noncomputable def QM (C:ag):cy:=fun β n ds k=>
 bif Nat.beq n 81 then cj Iw [false,false,true,false,false] [[1,2,0,4,0,5]] (@Ab C) ds k else
 bif Nat.beq n 225 then cj Ix [false,false,false,false,true,true] [[1,2,3,4,0,0]] (@Ad C) ds k else
 bif Nat.beq n 1055 then iA Iy [[1,2,3,4,0]] (@Ej C) ds k else
 bif Nat.beq n 321 then cj Iz [false,false,false,false,true,true] [[1,2,3,4,0,0]] (@Af C) ds k else
 bif Nat.beq n 49 then cj IA [false,false,true,true,true] [[0,0],[1,2,0,0,0,0]] (@Ah C) ds k else
 none
abbrev Ai (C:ag) (b:cu):Prop:=cv Try.prog ay C (QM C) 116 (cM Try.prog (ay.aY 116)) (ay.sin 116).a8.length b
theorem acb (C:ag):Ai C (.loop (aw [1,1,0,1,0,0,1,0,0,0,0,0] m8)):=
 cw Iw [false,false,true,false,false] [[1,2,0,4,0,5]] (@Ab C) (by kernel_rfl) (bf (bs:=[]) (by kernel_rfl) av) (fun ds=>by kernel_rfl) (fun i x=>by kernel_rfl) (fun i x β k=>by kernel_rfl) (fun β ds k=>by kernel_rfl)
theorem acd (C:ag):Ai C (.loop (aw [1,1,0,1,0,0,1,0,0,1,1,1,1,0,1,0,1,0,0] m8)):=
 cw Ix [false,false,false,false,true,true] [[1,2,3,4,0,0]] (@Ad C) (by kernel_rfl) (bf (bs:=[]) (by kernel_rfl) av) (fun ds=>by kernel_rfl) (fun i x=>by kernel_rfl) (fun i x β k=>by kernel_rfl) (fun β ds k=>by kernel_rfl)
theorem ace (C:ag):Ai C (.cond 65 (aw [1,1,0,1,0,0,1,0,0,1,1,1,1,0,1,0] m8) (aw [1,1,0,1,0,0,1,0,0,1,1,1,1,0,1,1] m8)):=
 iT Iy [[1,2,3,4,0]] (@Ej C) (by kernel_rfl) (bf (bs:=[.loop (aw [1,1,0,1,0,0,1,0,0,1,1,1,1,0,1,0,1,0,0] m8)]) (by kernel_rfl) (bG (acd C) av)) (bf (bs:=[]) (by kernel_rfl) av) (fun ds=>by kernel_rfl) (fun i β k=>by kernel_rfl) (fun β ds k=>by kernel_rfl)
theorem acf (C:ag):Ai C (.loop (aw [1,1,0,1,0,0,1,0,0,1,1,1,1,1,1,0,1,0,0] m8)):=
 cw Iz [false,false,false,false,true,true] [[1,2,3,4,0,0]] (@Af C) (by kernel_rfl) (bf (bs:=[]) (by kernel_rfl) av) (fun ds=>by kernel_rfl) (fun i x=>by kernel_rfl) (fun i x β k=>by kernel_rfl) (fun β ds k=>by kernel_rfl)
theorem acg (C:ag):Ai C (.loop (aw [1,1,0,1,0,0] m8)):=
 cw IA [false,false,true,true,true] [[0,0],[1,2,0,0,0,0]] (@Ah C) (by kernel_rfl) (bf (bs:=[.loop (aw [1,1,0,1,0,0,1,0,0,0,0,0] m8),.cond 65 (aw [1,1,0,1,0,0,1,0,0,1,1,1,1,0,1,0] m8) (aw [1,1,0,1,0,0,1,0,0,1,1,1,1,0,1,1] m8),.loop (aw [1,1,0,1,0,0,1,0,0,1,1,1,1,1,1,0,1,0,0] m8)]) (by kernel_rfl) (bG (acb C) (bG (ace C) (bG (acf C) av)))) (fun ds=>by kernel_rfl) (fun i x=>by kernel_rfl) (fun i x β k=>by kernel_rfl) (fun β ds k=>by kernel_rfl)
noncomputable def QN (C:ag) (a b':Int) (ak:List V):Option (List V):=
 (Loop (rM C a b') (IntKind.wrap .i64 (a+1),0,ak)).bind (bY (un fun (O5:Bool) (ach:List V)=>
  some [.bool O5,.list aa ach]) (un fun (ahw:Int)=>un fun (ahx:Int)=>un fun (O7:Bool) (aci:List V)=>
  some [.bool false,.list aa aci]))
theorem acj {a b':Int} {ak:List V} {r:Option (List V)} (h:QN CC a b' ak=r):CC DD [.int .i64 a,.int .i64 b',.list aa ak]=r:=
 a9 (key:=116) (L:=QM CC) (bs:=[.loop (aw [1,1,0,1,0,0] m8)]) (by kernel_rfl) (bG (acg CC) av) (aW (by kernel_rfl) h)
end Go.AM
set_option maxRecDepth 100000
set_option maxHeartbeats 4000000
namespace Go.AM.SX
open Go.Proofs Go.Sort
theorem wS (p:XE→Bool) (d:Array XE) (j i:Nat):scanUp p d j i=if i≤j then (if p d[i]! =true then scanUp p d j (i+1) else i) else i:=by
 conv=>lhs;rw[scanUp]
 by_cases h:i≤j
 ·rw[aj h];simp only[h,qH,ml]
 ·rw[ai h,ai (by simp[h])]
theorem Jv (p:XE→Bool) (d:Array XE) (i j:Nat):scanDown p d i (j+1)=if i≤j+1 then (if p d[j+1]! =true then scanDown p d i j else j+1) else j+1:=by
 conv=>lhs;rw[scanDown]
 by_cases h:i≤j+1
 ·rw[aj h];simp only[h,qH,ml]
 ·rw[ai h,ai (by simp[h])]
theorem Ek (d:Array XE) (b i:Nat):scanSorted ax d b i=if i<b then (if bM d[i]! d[i-1]! <0 then i else scanSorted ax d b (i+1)) else i:=by
 conv=>lhs;rw[scanSorted]
 by_cases h:i<b
 ·rw[aj h];simp only[h,qH,ml,qt]
  by_cases U:bM d[i]! d[i-1]! <0
  ·rw[ai (pt U),aj U]
  ·rw[aj U,ai U]
 ·rw[ai h,ai (by simp[h])]
theorem QO (j:Nat) (d:Array XE):shiftDown ax (j+1) d=if bM d[j+1]! d[j]! <0 then shiftDown ax j (swp d (j+1) j) else d:=by
 conv=>lhs;rw[shiftDown]
 simp only[qt]
 by_cases U:bM d[j+1]! d[j]! <0
 ·rw[ai (pt U),aj U]
 ·rw[aj U,ai U]
theorem El (b j:Nat) (d:Array XE):shiftUp ax b j d=if j<b then (if bM d[j]! d[j-1]! <0 then shiftUp ax b (j+1) (swp d j (j-1)) else d) else d:=by
 conv=>lhs;rw[shiftUp]
 simp only[qt]
 by_cases h:j<b
 ·rw[aj h,aj h]
  by_cases U:bM d[j]! d[j-1]! <0
  ·rw[ai (pt U),aj U]
  ·rw[aj U,ai U]
 ·rw[ai h,ai h]
theorem ack {a:Nat}: ∀(n i j:Nat) (d:Array XE),j+1-i≤n→(partLoop ax a i j d).2.size=d.size∧(partLoop ax a i j d).1≤j:=by
 intro n
 induction n with
 | zero=>
  intro i j d hn
  have h1:=scanUp_ge (fun x=>ax x d[a]!) d j i
  have U:=scanDown_le (fun x=> !ax x d[a]!) d (scanUp (fun x=>ax x d[a]!) d j i) j
  rw[partLoop_eq,aj (by omega)]
  exact ⟨rfl,U⟩
 | succ n ih=>
  intro i j d hn
  rw[partLoop_eq]
  have h1:=scanUp_ge (fun x=>ax x d[a]!) d j i
  have U:=scanDown_le (fun x=> !ax x d[a]!) d (scanUp (fun x=>ax x d[a]!) d j i) j
  split
  ·exact ⟨rfl,U⟩
  ·obtain ⟨h3,h4⟩:=ih (scanUp (fun x=>ax x d[a]!) d j i+1) (scanDown (fun x=> !ax x d[a]!) d (scanUp (fun x=>ax x d[a]!) d j i) j-1) (swp d (scanUp (fun x=>ax x d[a]!) d j i) (scanDown (fun x=> !ax x d[a]!) d (scanUp (fun x=>ax x d[a]!) d j i) j)) (by omega)
   exact ⟨by rw[h3,size_swp],by omega⟩
theorem jT {β:Type} {d:Array XE} {i:Nat} {x y:Option β} (h:i<d.size):(bif (decide (0≤(i:Int)))&&(decide ((i:Int)<((eA d).length:Int))) then x else y)=x:=by
 rw[fu,dg,aA,aj (by omega),aA,aj (by omega)]
theorem Em {β:Type} {d:Array XE} {i k:Nat} {v:V} {x y:Option β} (h:i<d.size):(bif (decide (0≤(i:Int)))&&(decide ((i:Int)<(((eA d).set k v).length:Int))) then x else y)=x:=by
 rw[nk,fu,dg,aA,aj (by omega),aA,aj (by omega)]
theorem jU {β:Type} {d:Array XE} {i:Nat} {f:V→Option β} (h:i<d.size):((eA d)[(i:Int).toNat]?).bind f=f (d[i]!).enc:=by
 rw[Int.toNat_natCast,fw h];rfl
theorem En {β:Type} {d:Array XE} {i k:Nat} {v:V} {x:Option β} (h:i<d.size):(((eA d).set k v)[(i:Int).toNat]?).bind (fun _=>x)=x:=by
 rw[Int.toNat_natCast,bE (by rw[nk,fu];exact h)];rfl
theorem qv {β:Type} {d:Array XE} {i:Nat} {f:V→Option β} (h:i<d.size):((eA d)[i]?).bind f=f (d[i]!).enc:=by
 rw[fw h];rfl
theorem Jw {β:Type} {d:Array XE} {i k:Nat} {v:V} {x:Option β} (h:i<d.size):(((eA d).set k v)[i]?).bind (fun _=>x)=x:=by
 rw[bE (by rw[nk,fu];exact h)];rfl
theorem acm {a j:Nat} {d:Array XE} (ha:a<d.size) (hj:j<d.size) (hs:d.size<1152921504606846976): ∀(n i:Nat),j+1-i=n→i≤d.size→
  ∃t,Loop (zZ CC a j (eA d)) (i:Int)=some (((scanUp (fun x=>ax x d[a]!) d j i:Nat):Int),t):=by
 intro n
 induction n with
 | zero=>
  intro i hn hi
  rw[wS,ai (by omega)]
  exact ⟨false,bc (by simp (disch:=omega) only[zZ,zY,aA,ai])⟩
 | succ n ih=>
  intro i hn hi
  obtain ⟨t,h⟩:=ih (i+1) (by omega) (by omega)
  rw[wS,aj (by omega)]
  have e:zZ CC a j (eA d) (i:Int)=if bM d[i]! d[a]! <0 then some (.inl ((i+1:Nat):Int)) else some (.inr ((i:Int),decide (bM d[i]! d[a]! <0))):=by
   simp (disch:=omega) only[zZ,zY,aA,dg,gC,aj,ai,wrap64,dx,fx,Int.toNat_natCast,Option.bind_some,fu,fw,XE.bq,XE.br,XE.bt,XE.re,fv,hG,gm,gb,V.aS,V.toInt_int,cond_true,cond_false]
  simp only[rL]
  by_cases U:bM d[i]! d[a]! <0
  ·rw[aj U] at e
   rw[aj U]
   exact ⟨t,(bS e).trans h⟩
  ·rw[ai U] at e
   rw[ai U]
   exact ⟨_,bc e⟩
theorem QP {a j:Nat} {d:Array XE} (ha:a<d.size) (hj:j<d.size) (hs:d.size<1152921504606846976): ∀(n i:Nat),j+1-i=n→i≤d.size→
  ∃t,Loop (z5 CC a j (eA d)) (i:Int)=some (((scanUp (fun x=>ax x d[a]!) d j i:Nat):Int),t):=by
 intro n
 induction n with
 | zero=>
  intro i hn hi
  rw[wS,ai (by omega)]
  exact ⟨false,bc (by simp (disch:=omega) only[z5,z0,aA,ai])⟩
 | succ n ih=>
  intro i hn hi
  obtain ⟨t,h⟩:=ih (i+1) (by omega) (by omega)
  rw[wS,aj (by omega)]
  have e:z5 CC a j (eA d) (i:Int)=if bM d[i]! d[a]! <0 then some (.inl ((i+1:Nat):Int)) else some (.inr ((i:Int),decide (bM d[i]! d[a]! <0))):=by
   simp (disch:=omega) only[z5,z0,aA,dg,gC,aj,ai,wrap64,dx,fx,Int.toNat_natCast,Option.bind_some,fu,fw,XE.bq,XE.br,XE.bt,XE.re,fv,hG,gm,gb,V.aS,V.toInt_int,cond_true,cond_false]
  simp only[rL]
  by_cases U:bM d[i]! d[a]! <0
  ·rw[aj U] at e
   rw[aj U]
   exact ⟨t,(bS e).trans h⟩
  ·rw[ai U] at e
   rw[ai U]
   exact ⟨_,bc e⟩
theorem QQ {a i:Nat} {d:Array XE} (ha:a<d.size) (hi:1≤i) (hs:d.size<1152921504606846976): ∀(j:Nat),j<d.size→
  ∃t,Loop (wJ CC a i (eA d)) (j:Int)=some (((scanDown (fun x=> !ax x d[a]!) d i j:Nat):Int),t)
 | 0,hj=>⟨false,bc (by simp (disch:=omega) only[wJ,wI,aA,ai];rfl)⟩
 | j+1,hj=>by
  obtain ⟨t,h⟩:=QQ ha hi hs j (by omega)
  rw[Jv]
  by_cases h1:i≤j+1
  ·rw[aj h1]
   have e:wJ CC a i (eA d) ((j+1:Nat):Int)=if bM d[j+1]! d[a]! <0 then some (.inr (((j+1:Nat):Int),!decide (bM d[j+1]! d[a]! <0))) else some (.inl (j:Int)):=by
    simp (disch:=omega) only[wJ,wI,aA,dg,gC,aj,ai,wrap64,dx,fx,Int.toNat_natCast,Option.bind_some,fu,fw,XE.bq,XE.br,XE.bt,XE.re,fv,hG,gm,gb,V.aS,V.toInt_int,cond_true,cond_false,tQ]
   simp only[qt]
   by_cases U:bM d[j+1]! d[a]! <0
   ·rw[aj U] at e
    rw[ai (pt U)]
    exact ⟨_,bc e⟩
   ·rw[ai U] at e
    rw[aj U]
    exact ⟨t,(bS e).trans h⟩
  ·rw[ai h1]
   exact ⟨false,bc (by simp (disch:=omega) only[wJ,wI,aA,ai])⟩
theorem Jx {a i:Nat} {d:Array XE} (ha:a<d.size) (hi:1≤i) (hs:d.size<1152921504606846976): ∀(j:Nat),j<d.size→
  ∃t,Loop (wL CC a i (eA d)) (j:Int)=some (((scanDown (fun x=> !ax x d[a]!) d i j:Nat):Int),t)
 | 0,hj=>⟨false,bc (by simp (disch:=omega) only[wL,wK,aA,ai];rfl)⟩
 | j+1,hj=>by
  obtain ⟨t,h⟩:=Jx ha hi hs j (by omega)
  rw[Jv]
  by_cases h1:i≤j+1
  ·rw[aj h1]
   have e:wL CC a i (eA d) ((j+1:Nat):Int)=if bM d[j+1]! d[a]! <0 then some (.inr (((j+1:Nat):Int),!decide (bM d[j+1]! d[a]! <0))) else some (.inl (j:Int)):=by
    simp (disch:=omega) only[wL,wK,aA,dg,gC,aj,ai,wrap64,dx,fx,Int.toNat_natCast,Option.bind_some,fu,fw,XE.bq,XE.br,XE.bt,XE.re,fv,hG,gm,gb,V.aS,V.toInt_int,cond_true,cond_false,tQ]
   simp only[qt]
   by_cases U:bM d[j+1]! d[a]! <0
   ·rw[aj U] at e
    rw[ai (pt U)]
    exact ⟨_,bc e⟩
   ·rw[ai U] at e
    rw[aj U]
    exact ⟨t,(bS e).trans h⟩
  ·rw[ai h1]
   exact ⟨false,bc (by simp (disch:=omega) only[wL,wK,aA,ai])⟩
theorem QR {a j:Nat} {d:Array XE} (ha:a<d.size) (hj:j<d.size) (hs:d.size<1152921504606846976): ∀(n i:Nat),j+1-i=n→i≤d.size→
  ∃t,Loop (z9 CC a j (eA d)) (i:Int)=some (((scanUp (fun x=> !ax d[a]! x) d j i:Nat):Int),t):=by
 intro n
 induction n with
 | zero=>
  intro i hn hi
  rw[wS,ai (by omega)]
  exact ⟨false,bc (by simp (disch:=omega) only[z9,z8,aA,ai])⟩
 | succ n ih=>
  intro i hn hi
  obtain ⟨t,h⟩:=ih (i+1) (by omega) (by omega)
  rw[wS,aj (by omega)]
  have e:z9 CC a j (eA d) (i:Int)=if bM d[a]! d[i]! <0 then some (.inr ((i:Int),!decide (bM d[a]! d[i]! <0))) else some (.inl ((i+1:Nat):Int)):=by
   simp (disch:=omega) only[z9,z8,aA,dg,gC,aj,ai,wrap64,dx,fx,Int.toNat_natCast,Option.bind_some,fu,fw,XE.bq,XE.br,XE.bt,XE.re,fv,hG,gm,gb,V.aS,V.toInt_int,cond_true,cond_false]
  simp only[qt]
  by_cases U:bM d[a]! d[i]! <0
  ·rw[aj U] at e
   rw[ai (pt U)]
   exact ⟨_,bc e⟩
  ·rw[ai U] at e
   rw[aj U]
   exact ⟨t,(bS e).trans h⟩
theorem Jy {a i:Nat} {d:Array XE} (ha:a<d.size) (hi:1≤i) (hs:d.size<1152921504606846976): ∀(j:Nat),j<d.size→
  ∃t,Loop (wQ CC a i (eA d)) (j:Int)=some (((scanDown (fun x=>ax d[a]! x) d i j:Nat):Int),t)
 | 0,hj=>⟨false,bc (by simp (disch:=omega) only[wQ,wP,aA,ai];rfl)⟩
 | j+1,hj=>by
  obtain ⟨t,h⟩:=Jy ha hi hs j (by omega)
  rw[Jv]
  by_cases h1:i≤j+1
  ·rw[aj h1]
   have e:wQ CC a i (eA d) ((j+1:Nat):Int)=if bM d[a]! d[j+1]! <0 then some (.inl (j:Int)) else some (.inr (((j+1:Nat):Int),decide (bM d[a]! d[j+1]! <0))):=by
    simp (disch:=omega) only[wQ,wP,aA,dg,gC,aj,ai,wrap64,dx,fx,Int.toNat_natCast,Option.bind_some,fu,fw,XE.bq,XE.br,XE.bt,XE.re,fv,hG,gm,gb,V.aS,V.toInt_int,cond_true,cond_false,tQ]
   simp only[rL]
   by_cases U:bM d[a]! d[j+1]! <0
   ·rw[aj U] at e
    rw[aj U]
    exact ⟨t,(bS e).trans h⟩
   ·rw[ai U] at e
    rw[ai U]
    exact ⟨_,bc e⟩
  ·rw[ai h1]
   exact ⟨false,bc (by simp (disch:=omega) only[wQ,wP,aA,ai])⟩
theorem acn {a:Nat}: ∀(n i j:Nat) (d:Array XE),j+1-i≤n→1≤i→i≤d.size→a<d.size→j<d.size→d.size<1152921504606846976→
  ∃x z,Loop (wM CC a) ((i:Int),(j:Int),eA d)=some (x,(((partLoop ax a i j d).1:Nat):Int),z,eA (partLoop ax a i j d).2):=by
 intro n
 induction n with
 | zero=>
  intro i j d hn h1 U ha hj hs
  obtain ⟨t3,e3⟩:=QP (a:=a) ha hj hs _ i rfl U
  have g1:=scanUp_ge (fun x=>ax x d[a]!) d j i
  have g2:=scanDown_le (fun x=> !ax x d[a]!) d (scanUp (fun x=>ax x d[a]!) d j i) j
  obtain ⟨t4,e4⟩:=Jx (a:=a) (i:=scanUp (fun x=>ax x d[a]!) d j i) ha (by omega) hs j hj
  rw[partLoop_eq,aj (by omega)]
  refine ⟨((scanUp (fun x=>ax x d[a]!) d j i:Nat):Int),true,bc ?_⟩
  simp only[wM,z6,un]
  rw[e3]
  simp only[Option.bind_some,un]
  rw[e4]
  simp (disch:=omega) only[Option.bind_some,un,mW,cond_true]
 | succ n ih=>
  intro i j d hn h1 U ha hj hs
  obtain ⟨t3,e3⟩:=QP (a:=a) ha hj hs _ i rfl U
  have g1:=scanUp_ge (fun x=>ax x d[a]!) d j i
  have g2:=scanDown_le (fun x=> !ax x d[a]!) d (scanUp (fun x=>ax x d[a]!) d j i) j
  obtain ⟨t4,e4⟩:=Jx (a:=a) (i:=scanUp (fun x=>ax x d[a]!) d j i) ha (by omega) hs j hj
  rw[partLoop_eq]
  have f:wM CC a ((i:Int),(j:Int),eA d)=wM CC a ((i:Int),(j:Int),eA d):=rfl
  conv at f=>rhs;simp only[wM,z6,un];rw[e3];simp only[Option.bind_some,un];rw[e4];simp only[Option.bind_some,un]
  generalize gy:scanUp (fun x=>ax x d[a]!) d j i=i2 at*
  generalize fH:scanDown (fun x=> !ax x d[a]!) d i2 j=j2 at*
  by_cases h:i2>j2
  ·rw[aj h]
   refine ⟨(i2:Int),true,bc (f.trans ?_)⟩
   simp (disch:=omega) only[Option.bind_some,mW,cond_true]
  ·rw[ai h]
   obtain ⟨x,z,e⟩:=ih (i2+1) (j2-1) (swp d i2 j2) (by omega) (by omega) (by rw[size_swp];omega) (by rw[size_swp];omega) (by rw[size_swp];omega) (by rw[size_swp];omega)
   refine ⟨x,z,(bS (f.trans ?_)).trans e⟩
   simp (disch:=omega) only[aA,dg,gC,aj,ai,wrap64,dx,fx,Int.toNat_natCast,Option.bind_some,fu,fw,XE.bq,XE.br,XE.bt,XE.re,fv,hG,gm,gb,V.aS,V.toInt_int,cond_true,cond_false,jR]
   rfl
theorem aco (d:Array XE) (a b pivot:Nat):partition ax d a b pivot=
  if scanUp (fun x=>ax x (swp d a pivot)[a]!) (swp d a pivot) (b-1) (a+1)>scanDown (fun x=> !ax x (swp d a pivot)[a]!) (swp d a pivot) (scanUp (fun x=>ax x (swp d a pivot)[a]!) (swp d a pivot) (b-1) (a+1)) (b-1) then
   (scanDown (fun x=> !ax x (swp d a pivot)[a]!) (swp d a pivot) (scanUp (fun x=>ax x (swp d a pivot)[a]!) (swp d a pivot) (b-1) (a+1)) (b-1),true,swp (swp d a pivot) (scanDown (fun x=> !ax x (swp d a pivot)[a]!) (swp d a pivot) (scanUp (fun x=>ax x (swp d a pivot)[a]!) (swp d a pivot) (b-1) (a+1)) (b-1)) a)
  else
   ((partLoop ax a (scanUp (fun x=>ax x (swp d a pivot)[a]!) (swp d a pivot) (b-1) (a+1)+1) (scanDown (fun x=> !ax x (swp d a pivot)[a]!) (swp d a pivot) (scanUp (fun x=>ax x (swp d a pivot)[a]!) (swp d a pivot) (b-1) (a+1)) (b-1)-1) (swp (swp d a pivot) (scanUp (fun x=>ax x (swp d a pivot)[a]!) (swp d a pivot) (b-1) (a+1)) (scanDown (fun x=> !ax x (swp d a pivot)[a]!) (swp d a pivot) (scanUp (fun x=>ax x (swp d a pivot)[a]!) (swp d a pivot) (b-1) (a+1)) (b-1)))).1,false,
    swp (partLoop ax a (scanUp (fun x=>ax x (swp d a pivot)[a]!) (swp d a pivot) (b-1) (a+1)+1) (scanDown (fun x=> !ax x (swp d a pivot)[a]!) (swp d a pivot) (scanUp (fun x=>ax x (swp d a pivot)[a]!) (swp d a pivot) (b-1) (a+1)) (b-1)-1) (swp (swp d a pivot) (scanUp (fun x=>ax x (swp d a pivot)[a]!) (swp d a pivot) (b-1) (a+1)) (scanDown (fun x=> !ax x (swp d a pivot)[a]!) (swp d a pivot) (scanUp (fun x=>ax x (swp d a pivot)[a]!) (swp d a pivot) (b-1) (a+1)) (b-1)))).2
    (partLoop ax a (scanUp (fun x=>ax x (swp d a pivot)[a]!) (swp d a pivot) (b-1) (a+1)+1) (scanDown (fun x=> !ax x (swp d a pivot)[a]!) (swp d a pivot) (scanUp (fun x=>ax x (swp d a pivot)[a]!) (swp d a pivot) (b-1) (a+1)) (b-1)-1) (swp (swp d a pivot) (scanUp (fun x=>ax x (swp d a pivot)[a]!) (swp d a pivot) (b-1) (a+1)) (scanDown (fun x=> !ax x (swp d a pivot)[a]!) (swp d a pivot) (scanUp (fun x=>ax x (swp d a pivot)[a]!) (swp d a pivot) (b-1) (a+1)) (b-1)))).1 a):=rfl
theorem wU (d:Array XE) (i j:Nat):eA ((d.setIfInBounds i d[j]!).setIfInBounds j d[i]!)=eA (swp d i j):=rfl
theorem acp {a b pivot:Nat} {d:Array XE} (hp:pivot<b) (eP:a<b) (hb:b≤d.size) (hs:d.size<1152921504606846976):
  CC mP [.int .i64 (a:Int),.int .i64 (b:Int),.int .i64 (pivot:Int),.list aa (eA d)]=
   some [.int .i64 ((partition ax d a b pivot).1:Int),.bool (partition ax d a b pivot).2.1,.list aa (eA (partition ax d a b pivot).2.2)]:=by
 refine ab2 ?_
 unfold QI
 have z1:(swp d a pivot).size=d.size:=size_swp ..
 obtain ⟨t1,e1⟩:=acm (a:=a) (j:=b-1) (d:=swp d a pivot) (by omega) (by omega) (by omega) _ (a+1) rfl (by omega)
 have g1:=scanUp_ge (fun x=>ax x (swp d a pivot)[a]!) (swp d a pivot) (b-1) (a+1)
 have g2:=scanDown_le (fun x=> !ax x (swp d a pivot)[a]!) (swp d a pivot) (scanUp (fun x=>ax x (swp d a pivot)[a]!) (swp d a pivot) (b-1) (a+1)) (b-1)
 obtain ⟨t2,e2⟩:=QQ (a:=a) (i:=scanUp (fun x=>ax x (swp d a pivot)[a]!) (swp d a pivot) (b-1) (a+1)) (d:=swp d a pivot) (by omega) (by omega) (by omega) (b-1) (by omega)
 have e0:=aco d a b pivot
 rw[jT (i:=pivot) (by omega),jU (by omega),jT (i:=a) (by omega),jU (by omega),jT (i:=a) (by omega),jU (by omega),Em (i:=pivot) (by omega),En (by omega)]
 simp only[XE.bq,XE.br,XE.bt,XE.re,Int.toNat_natCast,fv,wU]
 simp (disch:=omega) only[jR,dx,wrap64]
 rw[e1]
 simp only[Option.bind_some,un]
 rw[e2]
 simp only[Option.bind_some,un]
 generalize gy:scanUp (fun x=>ax x (swp d a pivot)[a]!) (swp d a pivot) (b-1) (a+1)=i2 at*
 generalize fH:scanDown (fun x=> !ax x (swp d a pivot)[a]!) (swp d a pivot) i2 (b-1)=j2 at*
 generalize swp d a pivot=d1 at*
 by_cases h:i2>j2
 ·rw[aj h] at e0
  rw[e0,aA,aj (by omega)]
  rw[jT (i:=a) (by omega)];(first|rw[jU (by omega)]|rw[qv (by omega)]);rw[jT (i:=j2) (by omega)];(first|rw[jU (by omega)]|rw[qv (by omega)]);rw[jT (i:=j2) (by omega)];(first|rw[jU (by omega)]|rw[qv (by omega)]);rw[Em (i:=a) (by omega)];(first|rw[En (by omega)]|rw[Jw (by omega)])
  simp only[XE.bq,XE.br,XE.bt,XE.re,Int.toNat_natCast,fv,wU]
 ·rw[ai h] at e0
  rw[e0,aA,ai (by omega)]
  have z2:(swp d1 i2 j2).size=d1.size:=size_swp ..
  obtain ⟨x,z,e5⟩:=acn (a:=a) _ (i2+1) (j2-1) (swp d1 i2 j2) (b6 _) (by omega) (by omega) (by omega) (by omega) (by omega)
  obtain ⟨q1,q2⟩:=ack (a:=a) _ (i2+1) (j2-1) (swp d1 i2 j2) (b6 _)
  rw[jT (i:=j2) (by omega)];(first|rw[jU (by omega)]|rw[qv (by omega)]);rw[jT (i:=i2) (by omega)];(first|rw[jU (by omega)]|rw[qv (by omega)]);rw[jT (i:=i2) (by omega)];(first|rw[jU (by omega)]|rw[qv (by omega)]);rw[Em (i:=j2) (by omega)];(first|rw[En (by omega)]|rw[Jw (by omega)])
  simp only[XE.bq,XE.br,XE.bt,XE.re,Int.toNat_natCast,fv,wU]
  simp (disch:=omega) only[jR,dx,wrap64]
  rw[e5]
  generalize partLoop ax a (i2+1) (j2-1) (swp d1 i2 j2)=r at*
  simp only[Option.bind_some,un]
  rw[jT (i:=a) (by omega)];(first|rw[jU (by omega)]|rw[qv (by omega)]);rw[jT (i:=r.1) (by omega)];(first|rw[jU (by omega)]|rw[qv (by omega)]);rw[jT (i:=r.1) (by omega)];(first|rw[jU (by omega)]|rw[qv (by omega)]);rw[Em (i:=a) (by omega)];(first|rw[En (by omega)]|rw[Jw (by omega)])
  simp only[XE.bq,XE.br,XE.bt,XE.re,Int.toNat_natCast,fv,wU]
theorem acq {a:Nat}: ∀(n i j:Nat) (d:Array XE),j+1-i≤n→1≤i→i≤d.size→a<d.size→j<d.size→d.size<1152921504606846976→
  ∃x z,Loop (wR CC a) ((i:Int),(j:Int),eA d)=some ((((partEqLoop ax a i j d).1:Nat):Int),x,z,eA (partEqLoop ax a i j d).2):=by
 intro n
 induction n with
 | zero=>
  intro i j d hn h1 U ha hj hs
  obtain ⟨t3,e3⟩:=QR (a:=a) ha hj hs _ i rfl U
  have g1:=scanUp_ge (fun x=> !ax d[a]! x) d j i
  have g2:=scanDown_le (fun x=>ax d[a]! x) d (scanUp (fun x=> !ax d[a]! x) d j i) j
  obtain ⟨t4,e4⟩:=Jy (a:=a) (i:=scanUp (fun x=> !ax d[a]! x) d j i) ha (by omega) hs j hj
  rw[partEqLoop_eq,aj (by omega)]
  refine ⟨((scanDown (fun x=>ax d[a]! x) d (scanUp (fun x=> !ax d[a]! x) d j i) j:Nat):Int),true,bc ?_⟩
  simp only[wR,Aa,un]
  rw[e3]
  simp only[Option.bind_some,un]
  rw[e4]
  simp (disch:=omega) only[Option.bind_some,un,mW,cond_true]
 | succ n ih=>
  intro i j d hn h1 U ha hj hs
  obtain ⟨t3,e3⟩:=QR (a:=a) ha hj hs _ i rfl U
  have g1:=scanUp_ge (fun x=> !ax d[a]! x) d j i
  have g2:=scanDown_le (fun x=>ax d[a]! x) d (scanUp (fun x=> !ax d[a]! x) d j i) j
  obtain ⟨t4,e4⟩:=Jy (a:=a) (i:=scanUp (fun x=> !ax d[a]! x) d j i) ha (by omega) hs j hj
  rw[partEqLoop_eq]
  have f:wR CC a ((i:Int),(j:Int),eA d)=wR CC a ((i:Int),(j:Int),eA d):=rfl
  conv at f=>rhs;simp only[wR,Aa,un];rw[e3];simp only[Option.bind_some,un];rw[e4];simp only[Option.bind_some,un]
  generalize gy:scanUp (fun x=> !ax d[a]! x) d j i=i2 at*
  generalize fH:scanDown (fun x=>ax d[a]! x) d i2 j=j2 at*
  by_cases h:i2>j2
  ·rw[aj h]
   refine ⟨(j2:Int),true,bc (f.trans ?_)⟩
   simp (disch:=omega) only[Option.bind_some,mW,cond_true]
  ·rw[ai h]
   obtain ⟨x,z,e⟩:=ih (i2+1) (j2-1) (swp d i2 j2) (by omega) (by omega) (by rw[size_swp];omega) (by rw[size_swp];omega) (by rw[size_swp];omega) (by rw[size_swp];omega)
   refine ⟨x,z,(bS (f.trans ?_)).trans e⟩
   simp (disch:=omega) only[aA,dg,gC,aj,ai,wrap64,dx,fx,Int.toNat_natCast,Option.bind_some,fu,fw,XE.bq,XE.br,XE.bt,XE.re,fv,hG,gm,gb,V.aS,V.toInt_int,cond_true,cond_false,jR]
   rfl
theorem acr {a b pivot:Nat} {d:Array XE} (hp:pivot<b) (eP:a<b) (hb:b≤d.size) (hs:d.size<1152921504606846976):
  CC tx [.int .i64 (a:Int),.int .i64 (b:Int),.int .i64 (pivot:Int),.list aa (eA d)]=
   some [.int .i64 ((partitionEqual ax d a b pivot).1:Int),.list aa (eA (partitionEqual ax d a b pivot).2)]:=by
 refine ab8 ?_
 unfold QK
 have z1:(swp d a pivot).size=d.size:=size_swp ..
 obtain ⟨x,z,e⟩:=acq (a:=a) _ (a+1) (b-1) (swp d a pivot) (b6 _) (by omega) (by omega) (by omega) (by omega) (by omega)
 simp (disch:=omega) only[aA,dg,aj,fu,fw,Int.toNat_natCast,Option.bind_some,XE.bq,XE.br,XE.bt,XE.re,fv,hG,gm,jR,dx,wrap64,wU]
 rw[e]
 rfl
theorem acs {a b j:Nat} {d:Array XE} (hb:b≤d.size) (hs:d.size<1152921504606846976): ∀(n i:Nat),b-i=n→1≤i→i≤b→
  ∃t,Loop (Ac CC a b j (eA d)) (i:Int)=some (((scanSorted ax d b i:Nat):Int),t):=by
 intro n
 induction n with
 | zero=>
  intro i hn h1 hi
  rw[Ek,ai (by omega)]
  exact ⟨false,bc (by simp (disch:=omega) only[Ac,Ab,aA,ai])⟩
 | succ n ih=>
  intro i hn h1 hi
  obtain ⟨t,h⟩:=ih (i+1) (by omega) (by omega) (by omega)
  rw[Ek,aj (by omega)]
  have e:Ac CC a b j (eA d) (i:Int)=if bM d[i]! d[i-1]! <0 then some (.inr ((i:Int),!decide (bM d[i]! d[i-1]! <0))) else some (.inl ((i+1:Nat):Int)):=by
   simp (disch:=omega) only[Ac,Ab,jR,aA,dg,gC,aj,ai,wrap64,dx,fx,Int.toNat_natCast,Option.bind_some,fu,fw,XE.bq,XE.br,XE.bt,XE.re,fv,hG,gm,gb,V.aS,V.toInt_int,cond_true,cond_false]
  by_cases U:bM d[i]! d[i-1]! <0
  ·rw[aj U] at e⊢
   exact ⟨_,bc e⟩
  ·rw[ai U] at e⊢
   exact ⟨t,(bS e).trans h⟩
theorem QS: ∀(j:Nat) (d:Array XE),(shiftDown ax j d).size=d.size
 | 0,_=>rfl
 | j+1,d=>by
  rw[QO]
  split
  ·rw[QS j,size_swp]
  ·rfl
theorem acu {b:Nat}: ∀(n j:Nat) (d:Array XE),b-j=n→(shiftUp ax b j d).size=d.size:=by
 intro n
 induction n with
 | zero=>intro j d h;rw[El,ai (by omega)]
 | succ n ih=>
  intro j d h
  rw[El,aj (by omega)]
  split
  ·rw[ih _ _ (by omega),size_swp]
  ·rfl
theorem QT {a b i k:Nat}: ∀(j:Nat) (d:Array XE),j<d.size→d.size<1152921504606846976→
  ∃t,Loop (Ae CC a b i k) ((j:Int),eA d)=some (t,eA (shiftDown ax j d))
 | 0,d,hj,hs=>⟨(0:Nat),bc (by
   simp (disch:=omega) only[Ae,Ad,un,aA,ai]
   rfl)⟩
 | j+1,d,hj,hs=>by
  obtain ⟨t,ih⟩:=QT (a:=a) (b:=b) (i:=i) (k:=k) j (swp d (j+1) j) (by rw[size_swp];omega) (by rw[size_swp];omega)
  rw[QO]
  have e:Ae CC a b i k (((j+1:Nat):Int),eA d)=if bM d[j+1]! d[j]! <0 then some (.inl ((j:Int),eA (swp d (j+1) j))) else some (.inr (((j+1:Nat):Int),eA d)):=by
   simp (disch:=omega) only[Ae,Ad,un,aA,dg,gC,aj,ai,wrap64,dx,fx,Int.toNat_natCast,Option.bind_some,fu,fw,XE.bq,XE.br,XE.bt,XE.re,fv,hG,gm,gb,V.aS,V.toInt_int,cond_true,cond_false,tQ]
   rfl
  by_cases U:bM d[j+1]! d[j]! <0
  ·rw[aj U] at e⊢
   exact ⟨t,(bS e).trans ih⟩
  ·rw[ai U] at e⊢
   exact ⟨_,bc e⟩
theorem acv {a b i k:Nat}: ∀(n j:Nat) (d:Array XE),b-j=n→1≤j→j≤b→b≤d.size→d.size<1152921504606846976→
  ∃t,Loop (Ag CC a b i k) ((j:Int),eA d)=some (t,eA (shiftUp ax b j d)):=by
 intro n
 induction n with
 | zero=>
  intro j d hn h1 hj hb hs
  rw[El,ai (by omega)]
  exact ⟨(j:Int),bc (by
   simp (disch:=omega) only[Ag,Af,un,aA,ai])⟩
 | succ n ih=>
  intro j d hn h1 hj hb hs
  obtain ⟨t,h⟩:=ih (j+1) (swp d j (j-1)) (by omega) (by omega) (by omega) (by rw[size_swp];omega) (by rw[size_swp];omega)
  rw[El,aj (by omega)]
  have e:Ag CC a b i k ((j:Int),eA d)=if bM d[j]! d[j-1]! <0 then some (.inl (((j+1:Nat):Int),eA (swp d j (j-1)))) else some (.inr ((j:Int),eA d)):=by
   simp (disch:=omega) only[Ag,Af,un,jR,aA,dg,gC,aj,ai,wrap64,dx,fx,Int.toNat_natCast,Option.bind_some,fu,fw,XE.bq,XE.br,XE.bt,XE.re,fv,hG,gm,gb,V.aS,V.toInt_int,cond_true,cond_false]
   rfl
  by_cases U:bM d[j]! d[j-1]! <0
  ·rw[aj U] at e⊢
   exact ⟨t,(bS e).trans h⟩
  ·rw[ai U] at e⊢
   exact ⟨_,bc e⟩
theorem acw {d:Array XE} {b:Nat}: ∀(n i:Nat),b-i=n→i≤b→i≤scanSorted ax d b i∧scanSorted ax d b i≤b:=by
 intro n
 induction n with
 | zero=>intro i hn hi;rw[Ek,ai (by omega)];omega
 | succ n ih=>
  intro i hn hi
  rw[Ek,aj (by omega)]
  obtain ⟨h1,U⟩:=ih (i+1) (by omega) (by omega)
  split<;>omega
theorem acx {a b:Nat}: ∀(s i:Nat) (d:Array XE),s≤5→a<i→i≤b→b≤d.size→d.size<1152921504606846976→
  (Loop (rM CC a b) ((i:Int),((5-s:Nat):Int),eA d)=some (.inl ((partialIns ax a b s i d).2,eA (partialIns ax a b s i d).1)))∨
  (∃x y z,(partialIns ax a b s i d).2=false∧Loop (rM CC a b) ((i:Int),((5-s:Nat):Int),eA d)=some (.inr (x,y,z,eA (partialIns ax a b s i d).1))):=by
 intro s
 induction s with
 | zero=>
  intro i d hs5 hi Jz hb hs
  refine .inr ⟨(i:Int),((5:Nat):Int),false,rfl,bc ?_⟩
  simp (disch:=omega) only[rM,Ah,un,rJ,cond_false]
  rfl
 | succ s ih=>
  intro i d hs5 hi Jz hb hs
  obtain ⟨t1,e1⟩:=acs (a:=a) (j:=5-(s+1)) hb hs _ i rfl (by omega) Jz
  obtain ⟨q1,q2⟩:=acw (d:=d) _ i rfl Jz
  rw[partialIns_succ]
  have f:rM CC a b ((i:Int),((5-(s+1):Nat):Int),eA d)=rM CC a b ((i:Int),((5-(s+1):Nat):Int),eA d):=rfl
  conv at f=>rhs;simp only[rM,Ah,un];rw[aA,aj (by omega),e1];simp only[Option.bind_some,un]
  generalize scanSorted ax d b i=k at*
  by_cases h1:k=b
  ·rw[aj h1]
   left
   refine bc (f.trans ?_)
   rw[eS,aj (by omega)]
  ·rw[ai h1]
   by_cases U:b-a<50
   ·rw[aj U]
    left
    refine bc (f.trans ?_)
    rw[eS,ai (by omega),wrap64 (by omega) (by omega),aA,aj (by omega)]
   ·rw[ai U]
    have z1:(swp d k (k-1)).size=d.size:=size_swp ..
    have z2:(fixDown ax a k (swp d k (k-1))).size=d.size:=by
     unfold fixDown
     split
     ·rw[QS,z1]
     ·exact z1
    have z3:(fixUp ax b k (fixDown ax a k (swp d k (k-1)))).size=d.size:=by
     unfold fixUp
     split
     ·rw[acu _ _ _ rfl,z2]
     ·exact z2
    obtain ⟨t2,e2⟩:=QT (a:=a) (b:=b) (i:=k) (k:=5-(s+1)) (k-1) (swp d k (k-1)) (by omega) (by omega)
    obtain ⟨t4,e4⟩:=acv (a:=a) (b:=b) (i:=k) (k:=5-(s+1)) _ (k+1) (fixDown ax a k (swp d k (k-1))) rfl (by omega) (by omega) (by omega) (by omega)
    have e5:rM CC a b ((i:Int),((5-(s+1):Nat):Int),eA d)=some (.inl ((k:Int),((5-s:Nat):Int),eA (fixUp ax b k (fixDown ax a k (swp d k (k-1)))))):=by
     refine f.trans ?_
     rw[eS,ai (by omega),wrap64 (by omega) (by omega),aA,ai (by omega)]
     simp (disch:=omega) only[aA,dg,aj,fu,fw,Int.toNat_natCast,Option.bind_some,XE.bq,XE.br,XE.bt,XE.re,fv,hG,gm,jR,dx,l8,wrap64,wU,Ej]
     rw[show 5-(s+1)+1=5-s by omega]
     unfold fixDown at e4⊢
     unfold fixUp
     have c1:(((k-a:Nat):Int)≥2)=(k-a≥2):=propext (by omega)
     have c2:(((b-k:Nat):Int)≥2)=(b-k≥2):=propext (by omega)
     simp only[c1,c2]
     by_cases g1:k-a≥2
     ·by_cases g2:b-k≥2
      ·simp only[g1,g2,db,e2,Option.bind_some,un] at e4⊢
       rw[e4]
       rfl
      ·simp only[g1,g2,db,fN,e2,Option.bind_some,un]
     ·by_cases g2:b-k≥2
      ·simp only[g1,g2,db,fN] at e4⊢
       rw[e4]
       rfl
      ·exact absurd (show b-k≥2 by omega) g2
    rw[bS e5]
    exact ih k _ (by omega) (by omega) (by omega) (by omega) (by omega)
theorem QU {a b:Nat} {d:Array XE} (eP:a<b) (hb:b≤d.size) (hs:d.size<1152921504606846976):
  CC DD [.int .i64 (a:Int),.int .i64 (b:Int),.list aa (eA d)]=
   some [.bool (partialInsertionSort ax d a b).2,.list aa (eA (partialInsertionSort ax d a b).1)]:=by
 refine acj ?_
 unfold QN
 simp (disch:=omega) only[dx,wrap64]
 rcases acx (a:=a) (b:=b) 5 (a+1) d (b6 _) (by omega) (by omega) hb hs with h|⟨x,y,z,h0,h⟩
 ·rw[show ((5-5:Nat):Int)=0 from rfl] at h
  rw[h]
  rfl
 ·rw[show ((5-5:Nat):Int)=0 from rfl] at h
  rw[h]
  unfold partialInsertionSort
  rw[h0]
  rfl
end Go.AM.SX
set_option maxRecDepth 100000
namespace Go.AM
open Go.Proofs
noncomputable abbrev rN:Code:=cJ Try.prog (ay.aY 114)
noncomputable def Aj (C:ag) (data:List V) (i j k':Int) (t36:Bool) (gG:Int) {β:Type} (kr:(Int × Int × Int × Int)→Option β):Option β:=
 bif t36 then
  (C vW [.list aa data,.int .i64 i,.int .i64 gG]).bind fun r1=>
  (C vW [.list aa data,.int .i64 j,.int .i64 ((V.nth (r1.drop 1) 0).toInt)]).bind fun r2=>
  (C vW [.list aa data,.int .i64 k',.int .i64 ((V.nth (r2.drop 1) 0).toInt)]).bind fun r3=>
  kr ((V.nth r1 0).toInt,(V.nth r2 0).toInt,(V.nth r3 0).toInt,(V.nth (r3.drop 1) 0).toInt)
 else
  kr (i,j,k',gG)
noncomputable def Ak (C:ag) (data:List V) (l i j k':Int) (t34:Bool) (gG:Int) {β:Type} (kr:(Int × Int)→Option β):Option β:=
 bif t34 then
  Aj C data i j k' (decide ((l:Int)≥50)) gG (un fun (eV:Int)=>un fun (j_5:Int)=>un fun (k_6:Int) (acy:Int)=>
   (C zj [.list aa data,.int .i64 eV,.int .i64 j_5,.int .i64 k_6,.int .i64 acy]).bind fun r8=>
   kr ((V.nth r8 0).toInt,(V.nth (r8.drop 1) 0).toInt))
 else
  kr (j,gG)
noncomputable def QV (C:ag):cy:=fun β n ds k=>
 bif Nat.beq n 591 then iA It [[1,0,0,0,0]] (@Aj C) ds k else
 bif Nat.beq n 559 then iA Iu [[0,0]] (@Ak C) ds k else
 none
abbrev QW (C:ag) (b:cu):Prop:=cv Try.prog ay C (QV C) 114 (cM Try.prog (ay.aY 114)) (ay.sin 114).a8.length b
theorem acz (C:ag):QW C (.cond 36 (aw [1,1,1,1,1,1,0,1,0,0,1,0] rN) (aw [1,1,1,1,1,1,0,1,0,0,1,1] rN)):=
 iT It [[1,0,0,0,0]] (@Aj C) (by kernel_rfl) (bf (bs:=[]) (by kernel_rfl) av) (bf (bs:=[]) (by kernel_rfl) av) (fun ds=>by kernel_rfl) (fun i β k=>by kernel_rfl) (fun β ds k=>by kernel_rfl)
theorem acA (C:ag):QW C (.cond 34 (aw [1,1,1,1,1,1,0,1,0] rN) (aw [1,1,1,1,1,1,0,1,1] rN)):=
 iT Iu [[0,0]] (@Ak C) (by kernel_rfl) (bf (bs:=[.cond 36 (aw [1,1,1,1,1,1,0,1,0,0,1,0] rN) (aw [1,1,1,1,1,1,0,1,0,0,1,1] rN)]) (by kernel_rfl) (bG (acz C) av)) (bf (bs:=[]) (by kernel_rfl) av) (fun ds=>by kernel_rfl) (fun i β k=>by kernel_rfl) (fun β ds k=>by kernel_rfl)
noncomputable def JA (C:ag) (data:List V) (a b':Int):Option (List V):=
 Ak C data (IntKind.wrap .i64 (b'-a)) (IntKind.wrap .i64 (a+(IntKind.wrap .i64 (1*(IntKind.wrap .i64 (Int.tdiv (IntKind.wrap .i64 (b'-a)) 4)))))) (IntKind.wrap .i64 (a+(IntKind.wrap .i64 (2*(IntKind.wrap .i64 (Int.tdiv (IntKind.wrap .i64 (b'-a)) 4)))))) (IntKind.wrap .i64 (a+(IntKind.wrap .i64 (3*(IntKind.wrap .i64 (Int.tdiv (IntKind.wrap .i64 (b'-a)) 4)))))) (decide (((IntKind.wrap .i64 (b'-a)):Int)≥8)) 0 (un fun (JB:Int) (QX:Int)=>
  bif (QX:Int)==0 then
   some [.int .i64 JB,.int .i64 1]
  else
   bif (QX:Int)==12 then
   some [.int .i64 JB,.int .i64 2]
   else
   some [.int .i64 JB,.int .i64 0])
theorem QY {data:List V} {a b':Int} {r:Option (List V)} (h:JA CC data a b'=r):CC zh [.list aa data,.int .i64 a,.int .i64 b']=r:=
 a9 (key:=114) (L:=QV CC) (bs:=[.cond 34 (aw [1,1,1,1,1,1,0,1,0] rN) (aw [1,1,1,1,1,1,0,1,1] rN)]) (by kernel_rfl) (bG (acA CC) av) (aW (by kernel_rfl) h)
noncomputable def QZ (C:ag) (data:List V) (a b' c gG:Int):Option (List V):=
 (C vX [.list aa data,.int .i64 a,.int .i64 b',.int .i64 gG]).bind fun r1=>
 (C vX [.list aa data,.int .i64 ((V.nth (r1.drop 1) 0).toInt),.int .i64 c,.int .i64 ((V.nth (r1.drop 2) 0).toInt)]).bind fun r2=>
 (C vX [.list aa data,.int .i64 ((V.nth r1 0).toInt),.int .i64 ((V.nth r2 0).toInt),.int .i64 ((V.nth (r2.drop 2) 0).toInt)]).bind fun r3=>
 some [.int .i64 ((V.nth (r3.drop 1) 0).toInt),.int .i64 ((V.nth (r3.drop 2) 0).toInt)]
theorem acB {data:List V} {a b' c gG:Int} {r:Option (List V)} (h:QZ CC data a b' c gG=r):CC zj [.list aa data,.int .i64 a,.int .i64 b',.int .i64 c,.int .i64 gG]=r:=
 a9 (key:=125) (L:=b9) (bs:=[]) (by kernel_rfl) av (aW (by kernel_rfl) h)
noncomputable def JC (C:ag) (data:List V) (a b' gG:Int):Option (List V):=
 (idx data b').bind fun x1=>
 (idx data a).bind fun x2=>
 (C aZ [.int .i64 ((x1.cell 0).toInt),.int .i64 ((x1.cell 1).toInt),.list aa ((x1.cell 2).toList),.int .i64 ((x2.cell 0).toInt),.int .i64 ((x2.cell 1).toInt),.list aa ((x2.cell 2).toList)]).bind fun r3=>
 bif decide ((((V.nth r3 0).toInt):Int)<0) then
  some [.int .i64 b',.int .i64 a,.int .i64 (IntKind.wrap .i64 (gG+1))]
 else
  some [.int .i64 a,.int .i64 b',.int .i64 gG]
theorem Q0 {data:List V} {a b' gG:Int} {r:Option (List V)} (h:JC CC data a b' gG=r):CC vX [.list aa data,.int .i64 a,.int .i64 b',.int .i64 gG]=r:=
 a9 (key:=126) (L:=b9) (bs:=[]) (by kernel_rfl) av (aW (by kernel_rfl) h)
noncomputable def Q1 (C:ag) (data:List V) (a gG:Int):Option (List V):=
 (C zj [.list aa data,.int .i64 (IntKind.wrap .i64 (a-1)),.int .i64 a,.int .i64 (IntKind.wrap .i64 (a+1)),.int .i64 gG]).bind fun r1=>
 some [.int .i64 ((V.nth r1 0).toInt),.int .i64 ((V.nth (r1.drop 1) 0).toInt)]
theorem acC {data:List V} {a gG:Int} {r:Option (List V)} (h:Q1 CC data a gG=r):CC vW [.list aa data,.int .i64 a,.int .i64 gG]=r:=
 a9 (key:=124) (L:=b9) (bs:=[]) (by kernel_rfl) av (aW (by kernel_rfl) h)
noncomputable abbrev wV:Code:=cJ Try.prog (ay.aY 113)
noncomputable def Eo (C:ag) (a length wW ju other:Int) (t45:Bool) (ak:List V) (Al:Int) {β:Type} (kr:(Int)→Option β):Option β:=
 bif t45 then
  kr (IntKind.wrap .i64 (other-length))
 else
  kr other
noncomputable def Am (C:ag) (a length wW ju:Int) (ak:List V) (Al:Int) {β:Type} (kn:(Int × (List V) × Int)→Option β) (kr:(Int × Bool × (List V) × Int)→Option β):Option β:=
 bif decide ((ju:Int)≤(IntKind.wrap .i64 ((IntKind.wrap .i64 (a+(IntKind.wrap .i64 (2*(IntKind.wrap .i64 (Int.tdiv length 4))))))+1))) then
  (C DG [.int .u64 Al]).bind fun r2=>
  Eo C a length wW ju (IntKind.wrap .i64 (IntKind.wrap .u64 ((BitVec.ofInt (IntKind.bits .u64) ((V.nth r2 0).toInt)&&&BitVec.ofInt (IntKind.bits .u64) (IntKind.wrap .u64 (wW-1))).toNat))) (decide (((IntKind.wrap .i64 (IntKind.wrap .u64 ((BitVec.ofInt (IntKind.bits .u64) ((V.nth r2 0).toInt)&&&BitVec.ofInt (IntKind.bits .u64) (IntKind.wrap .u64 (wW-1))).toNat))):Int)≥length)) ak ((V.nth (r2.drop 1) 0).toInt) (fun (tX:Int)=>
   bif (decide (0≤(IntKind.wrap .i64 (a+tX))))&&(decide ((IntKind.wrap .i64 (a+tX))<(ak.length:Int))) then
   (ak[(IntKind.wrap .i64 (a+tX):Int).toNat]?).bind fun x4=>
   bif (decide (0≤ju))&&(decide (ju<(ak.length:Int))) then
    (ak[(ju:Int).toNat]?).bind fun x5=>
    bif (decide (0≤ju))&&(decide (ju<(ak.length:Int))) then
    (ak[(ju:Int).toNat]?).bind fun x6=>
    bif (decide (0≤(IntKind.wrap .i64 (a+tX))))&&(decide ((IntKind.wrap .i64 (a+tX))<((ak.set ((ju:Int).toNat) (.agg [.int .i64 ((x4.cell 0).toInt),.int .i64 ((x4.cell 1).toInt),.list aa ((x4.cell 2).toList)])).length:Int))) then
     ((ak.set ((ju:Int).toNat) (.agg [.int .i64 ((x4.cell 0).toInt),.int .i64 ((x4.cell 1).toInt),.list aa ((x4.cell 2).toList)]))[(IntKind.wrap .i64 (a+tX):Int).toNat]?).bind fun x7=>
     kn (IntKind.wrap .i64 (ju+1),(ak.set ((ju:Int).toNat) (.agg [.int .i64 ((x4.cell 0).toInt),.int .i64 ((x4.cell 1).toInt),.list aa ((x4.cell 2).toList)])).set ((IntKind.wrap .i64 (a+tX):Int).toNat) (.agg [.int .i64 ((x5.cell 0).toInt),.int .i64 ((x5.cell 1).toInt),.list aa ((x5.cell 2).toList)]),(V.nth (r2.drop 1) 0).toInt)
    else none
    else none
   else none
   else none)
 else
  kr (ju,decide ((ju:Int)≤(IntKind.wrap .i64 ((IntKind.wrap .i64 (a+(IntKind.wrap .i64 (2*(IntKind.wrap .i64 (Int.tdiv length 4))))))+1))),ak,Al)
noncomputable def Ep (C:ag) (a length wW:Int):(Int × (List V) × Int)→Option ((Int × (List V) × Int) ⊕ (Int × Bool × (List V) × Int)):=un fun ju=>un fun ak Al=>Am C a length wW ju ak Al (fun y=>some (.inl y)) (fun r=>some (.inr r))
noncomputable def Q2 (C:ag):cy:=fun β n ds k=>
 bif Nat.beq n 735 then iA Ir [[1,2,3,4,0,7,8]] (@Eo C) ds k else
 bif Nat.beq n 81 then cj Is [false,false,false,true,true,true] [[1,2,3,0,0,0,0]] (@Am C) ds k else
 none
abbrev Q3 (C:ag) (b:cu):Prop:=cv Try.prog ay C (Q2 C) 113 (cM Try.prog (ay.aY 113)) (ay.sin 113).a8.length b
theorem acD (C:ag):Q3 C (.cond 45 (aw [1,1,0,1,1,1,0,0,1,0,0,1,0,1,0] wV) (aw [1,1,0,1,1,1,0,0,1,0,0,1,0,1,1] wV)):=
 iT Ir [[1,2,3,4,0,7,8]] (@Eo C) (by kernel_rfl) (bf (bs:=[]) (by kernel_rfl) av) (bf (bs:=[]) (by kernel_rfl) av) (fun ds=>by kernel_rfl) (fun i β k=>by kernel_rfl) (fun β ds k=>by kernel_rfl)
theorem acE (C:ag):Q3 C (.loop (aw [1,1,0,1,1,1,0,0] wV)):=
 cw Is [false,false,false,true,true,true] [[1,2,3,0,0,0,0]] (@Am C) (by kernel_rfl) (bf (bs:=[.cond 45 (aw [1,1,0,1,1,1,0,0,1,0,0,1,0,1,0] wV) (aw [1,1,0,1,1,1,0,0,1,0,0,1,0,1,1] wV)]) (by kernel_rfl) (bG (acD C) av)) (fun ds=>by kernel_rfl) (fun i x=>by kernel_rfl) (fun i x β k=>by kernel_rfl) (fun β ds k=>by kernel_rfl)
noncomputable def Q4 (C:ag) (a b':Int) (ak:List V):Option (List V):=
 bif decide (((IntKind.wrap .i64 (b'-a)):Int)≥8) then
  (C DF [.int .i64 (IntKind.wrap .i64 (b'-a))]).bind fun r1=>
  (Loop (Ep C a (IntKind.wrap .i64 (b'-a)) ((V.nth r1 0).toInt)) (IntKind.wrap .i64 ((IntKind.wrap .i64 (a+(IntKind.wrap .i64 (2*(IntKind.wrap .i64 (Int.tdiv (IntKind.wrap .i64 (b'-a)) 4))))))-1),ak,IntKind.wrap .u64 (IntKind.wrap .i64 (b'-a)))).bind (un fun (ahy:Int)=>un fun (rE:Bool)=>un fun (od:List V) (ahz:Int)=>
   some [.list aa od])
 else
  some [.list aa ak]
theorem acF {a b':Int} {ak:List V} {r:Option (List V)} (h:Q4 CC a b' ak=r):CC DB [.int .i64 a,.int .i64 b',.list aa ak]=r:=
 a9 (key:=113) (L:=Q2 CC) (bs:=[.loop (aw [1,1,0,1,1,1,0,0] wV)]) (by kernel_rfl) (bG (acE CC) av) (aW (by kernel_rfl) h)
noncomputable def Q5 (C:ag) (iE:Int):Option (List V):=
 some [.int .u64 (IntKind.wrap .u64 ((BitVec.ofInt (IntKind.bits .u64) (IntKind.wrap .u64 ((BitVec.ofInt (IntKind.bits .u64) (IntKind.wrap .u64 ((BitVec.ofInt (IntKind.bits .u64) iE ^^^ BitVec.ofInt (IntKind.bits .u64) (IntKind.wrap .u64 (iE*2^(min (13:Int).toNat (IntKind.bits .u64))))).toNat)) ^^^ BitVec.ofInt (IntKind.bits .u64) (Int.fdiv (IntKind.wrap .u64 ((BitVec.ofInt (IntKind.bits .u64) iE ^^^ BitVec.ofInt (IntKind.bits .u64) (IntKind.wrap .u64 (iE*2^(min (13:Int).toNat (IntKind.bits .u64))))).toNat)) (2^(min (7:Int).toNat (IntKind.bits .u64))))).toNat)) ^^^ BitVec.ofInt (IntKind.bits .u64) (IntKind.wrap .u64 ((IntKind.wrap .u64 ((BitVec.ofInt (IntKind.bits .u64) (IntKind.wrap .u64 ((BitVec.ofInt (IntKind.bits .u64) iE ^^^ BitVec.ofInt (IntKind.bits .u64) (IntKind.wrap .u64 (iE*2^(min (13:Int).toNat (IntKind.bits .u64))))).toNat)) ^^^ BitVec.ofInt (IntKind.bits .u64) (Int.fdiv (IntKind.wrap .u64 ((BitVec.ofInt (IntKind.bits .u64) iE ^^^ BitVec.ofInt (IntKind.bits .u64) (IntKind.wrap .u64 (iE*2^(min (13:Int).toNat (IntKind.bits .u64))))).toNat)) (2^(min (7:Int).toNat (IntKind.bits .u64))))).toNat))*2^(min (17:Int).toNat (IntKind.bits .u64))))).toNat)),.int .u64 (IntKind.wrap .u64 ((BitVec.ofInt (IntKind.bits .u64) (IntKind.wrap .u64 ((BitVec.ofInt (IntKind.bits .u64) (IntKind.wrap .u64 ((BitVec.ofInt (IntKind.bits .u64) iE ^^^ BitVec.ofInt (IntKind.bits .u64) (IntKind.wrap .u64 (iE*2^(min (13:Int).toNat (IntKind.bits .u64))))).toNat)) ^^^ BitVec.ofInt (IntKind.bits .u64) (Int.fdiv (IntKind.wrap .u64 ((BitVec.ofInt (IntKind.bits .u64) iE ^^^ BitVec.ofInt (IntKind.bits .u64) (IntKind.wrap .u64 (iE*2^(min (13:Int).toNat (IntKind.bits .u64))))).toNat)) (2^(min (7:Int).toNat (IntKind.bits .u64))))).toNat)) ^^^ BitVec.ofInt (IntKind.bits .u64) (IntKind.wrap .u64 ((IntKind.wrap .u64 ((BitVec.ofInt (IntKind.bits .u64) (IntKind.wrap .u64 ((BitVec.ofInt (IntKind.bits .u64) iE ^^^ BitVec.ofInt (IntKind.bits .u64) (IntKind.wrap .u64 (iE*2^(min (13:Int).toNat (IntKind.bits .u64))))).toNat)) ^^^ BitVec.ofInt (IntKind.bits .u64) (Int.fdiv (IntKind.wrap .u64 ((BitVec.ofInt (IntKind.bits .u64) iE ^^^ BitVec.ofInt (IntKind.bits .u64) (IntKind.wrap .u64 (iE*2^(min (13:Int).toNat (IntKind.bits .u64))))).toNat)) (2^(min (7:Int).toNat (IntKind.bits .u64))))).toNat))*2^(min (17:Int).toNat (IntKind.bits .u64))))).toNat))]
theorem acG {iE:Int} {r:Option (List V)} (h:Q5 CC iE=r):CC DG [.int .u64 iE]=r:=
 a9 (key:=123) (L:=b9) (bs:=[]) (by kernel_rfl) av (aW (by kernel_rfl) h)
noncomputable def Q6 (C:ag) (length:Int):Option (List V):=
 (C ze [.int .u64 (IntKind.wrap .u64 length)]).bind fun r1=>
 bif decide (0≤((V.nth r1 0).toInt)) then
  some [.int .u64 (IntKind.wrap .u64 (1*2^(min ((V.nth r1 0).toInt).toNat (IntKind.bits .u64))))]
 else none
theorem acH {length:Int} {r:Option (List V)} (h:Q6 CC length=r):CC DF [.int .i64 length]=r:=
 a9 (key:=122) (L:=b9) (bs:=[]) (by kernel_rfl) av (aW (by kernel_rfl) h)
noncomputable def Q7 (C:ag) (x:Int):Option (List V):=
 (C DE [.int .u64 x]).bind fun r1=>
 some [.int .i64 ((V.nth r1 0).toInt)]
theorem acI {x:Int} {r:Option (List V)} (h:Q7 CC x=r):CC ze [.int .u64 x]=r:=
 a9 (key:=110) (L:=b9) (bs:=[]) (by kernel_rfl) av (aW (by kernel_rfl) h)
noncomputable abbrev rO:Code:=cJ Try.prog (ay.aY 120)
noncomputable def tY (C:ag) (x n:Int) (t4:Bool) {β:Type} (kr:(Int × Int)→Option β):Option β:=
 bif t4 then
  kr (Int.fdiv x (2^(min (32:Int).toNat (IntKind.bits .u64))),32)
 else
  kr (x,n)
noncomputable def tZ (C:ag) (x n:Int) (t8:Bool) {β:Type} (kr:(Int × Int)→Option β):Option β:=
 bif t8 then
  kr (Int.fdiv x (2^(min (16:Int).toNat (IntKind.bits .u64))),IntKind.wrap .i64 (n+16))
 else
  kr (x,n)
noncomputable def Q8 (C:ag):cy:=fun β n ds k=>
 bif Nat.beq n 79 then iA IJ [[0,0]] (@tY C) ds k else
 bif Nat.beq n 143 then iA IK [[0,0]] (@tZ C) ds k else
 none
abbrev Q9 (C:ag) (b:cu):Prop:=cv Try.prog ay C (Q8 C) 120 (cM Try.prog (ay.aY 120)) (ay.sin 120).a8.length b
theorem acJ (C:ag):Q9 C (.cond 4 (aw [1,0,1,0] rO) (aw [1,0,1,1] rO)):=
 iT IJ [[0,0]] (@tY C) (by kernel_rfl) (bf (bs:=[]) (by kernel_rfl) av) (bf (bs:=[]) (by kernel_rfl) av) (fun ds=>by kernel_rfl) (fun i β k=>by kernel_rfl) (fun β ds k=>by kernel_rfl)
theorem acK (C:ag):Q9 C (.cond 8 (aw [1,1,0,1,0] rO) (aw [1,1,0,1,1] rO)):=
 iT IK [[0,0]] (@tZ C) (by kernel_rfl) (bf (bs:=[]) (by kernel_rfl) av) (bf (bs:=[]) (by kernel_rfl) av) (fun ds=>by kernel_rfl) (fun i β k=>by kernel_rfl) (fun β ds k=>by kernel_rfl)
noncomputable def acL (C:ag) (x:Int):Option (List V):=
 tY C x 0 (decide ((x:Int)≥4294967296)) (un fun (rP:Int) (An:Int)=>
  tZ C rP An (decide ((rP:Int)≥65536)) (un fun (Ao:Int) (Ra:Int)=>
   bif decide ((Ao:Int)≥256) then
    (bif decide (0≤(IntKind.wrap .u8 (Int.fdiv Ao (2^(min (8:Int).toNat (IntKind.bits .u64)))))) then (([0,1,2,2,3,3,3,3,4,4,4,4,4,4,4,4,5,5,5,5,5,5,5,5,5,5,5,5,5,5,5,5,6,6,6,6,6,6,6,6,6,6,6,6,6,6,6,6,6,6,6,6,6,6,6,6,6,6,6,6,6,6,6,6,7,7,7,7,7,7,7,7,7,7,7,7,7,7,7,7,7,7,7,7,7,7,7,7,7,7,7,7,7,7,7,7,7,7,7,7,7,7,7,7,7,7,7,7,7,7,7,7,7,7,7,7,7,7,7,7,7,7,7,7,7,7,7,7,8,8,8,8,8,8,8,8,8,8,8,8,8,8,8,8,8,8,8,8,8,8,8,8,8,8,8,8,8,8,8,8,8,8,8,8,8,8,8,8,8,8,8,8,8,8,8,8,8,8,8,8,8,8,8,8,8,8,8,8,8,8,8,8,8,8,8,8,8,8,8,8,8,8,8,8,8,8,8,8,8,8,8,8,8,8,8,8,8,8,8,8,8,8,8,8,8,8,8,8,8,8,8,8,8,8,8,8,8,8,8,8,8,8,8,8,8,8,8,8,8,8,8,8,8,8,8,8]:List UInt8)[(IntKind.wrap .u8 (Int.fdiv Ao (2^(min (8:Int).toNat (IntKind.bits .u64)))):Int).toNat]?).map fun b=>V.int .u8 b.toNat else none).bind fun x5=>
    some [.int .i64 (IntKind.wrap .i64 ((IntKind.wrap .i64 (Ra+8))+(IntKind.wrap .i64 x5.toInt)))]
   else
    (bif decide (0≤(IntKind.wrap .u8 Ao)) then (([0,1,2,2,3,3,3,3,4,4,4,4,4,4,4,4,5,5,5,5,5,5,5,5,5,5,5,5,5,5,5,5,6,6,6,6,6,6,6,6,6,6,6,6,6,6,6,6,6,6,6,6,6,6,6,6,6,6,6,6,6,6,6,6,7,7,7,7,7,7,7,7,7,7,7,7,7,7,7,7,7,7,7,7,7,7,7,7,7,7,7,7,7,7,7,7,7,7,7,7,7,7,7,7,7,7,7,7,7,7,7,7,7,7,7,7,7,7,7,7,7,7,7,7,7,7,7,7,8,8,8,8,8,8,8,8,8,8,8,8,8,8,8,8,8,8,8,8,8,8,8,8,8,8,8,8,8,8,8,8,8,8,8,8,8,8,8,8,8,8,8,8,8,8,8,8,8,8,8,8,8,8,8,8,8,8,8,8,8,8,8,8,8,8,8,8,8,8,8,8,8,8,8,8,8,8,8,8,8,8,8,8,8,8,8,8,8,8,8,8,8,8,8,8,8,8,8,8,8,8,8,8,8,8,8,8,8,8,8,8,8,8,8,8,8,8,8,8,8,8,8,8,8,8,8,8]:List UInt8)[(IntKind.wrap .u8 Ao:Int).toNat]?).map fun b=>V.int .u8 b.toNat else none).bind fun x6=>
    some [.int .i64 (IntKind.wrap .i64 (Ra+(IntKind.wrap .i64 x6.toInt)))]))
theorem Rb {x:Int} {r:Option (List V)} (h:acL CC x=r):CC DE [.int .u64 x]=r:=
 a9 (key:=120) (L:=Q8 CC) (bs:=[.cond 4 (aw [1,0,1,0] rO) (aw [1,0,1,1] rO),.cond 8 (aw [1,1,0,1,0] rO) (aw [1,1,0,1,1] rO)]) (by kernel_rfl) (bG (acJ CC) (bG (acK CC) av)) (aW (by kernel_rfl) h)
noncomputable abbrev ln:Code:=cJ Try.prog (ay.aY 109)
noncomputable def wX (C:ag) (a b' iY:Int) (ep eK:Bool) (length:Int) (t39:Bool) (ak:List V) {β:Type} (kr:(Int × (List V))→Option β):Option β:=
 bif t39 then
  (C DB [.int .i64 a,.int .i64 b',.list aa ak]).bind fun r3=>
  kr (IntKind.wrap .i64 (iY-1),(V.nth r3 0).toList)
 else
  kr (iY,ak)
noncomputable def wY (C:ag) (a b' iY:Int) (ep eK:Bool) (length pivot hint:Int) (t56:Bool) (ak:List V) {β:Type} (kr:(Int × Int × (List V))→Option β):Option β:=
 bif t56 then
  (C DC [.int .i64 a,.int .i64 b',.list aa ak]).bind fun r7=>
  kr (IntKind.wrap .i64 ((IntKind.wrap .i64 (b'-1))-(IntKind.wrap .i64 (pivot-a))),1,(V.nth r7 0).toList)
 else
  kr (pivot,hint,ak)
noncomputable def mc (C:ag) (a b' iY:Int) (ep eK:Bool) (length pivot:Int) (t75:Bool) (ak:List V) {β:Type} (kr:((Bool × (List V)) ⊕ (List V))→Option β):Option β:=
 bif t75 then
  (C DD [.int .i64 a,.int .i64 b',.list aa ak]).bind fun eL=>
  bif (V.nth eL 0).toBool then
  kr (.inl ((V.nth eL 0).toBool,(V.nth (eL.drop 1) 0).toList))
  else
  kr (.inr ((V.nth (eL.drop 1) 0).toList))
 else
  kr (.inr ak)
noncomputable def pd (C:ag) (a b' iY:Int) (ep eK:Bool) (ak:List V) {β:Type} (kn:(Int × Int × Int × Bool × Bool × (List V))→Option β) (kr:(List V)→Option β):Option β:=
 bif decide (((IntKind.wrap .i64 (b'-a)):Int)≤12) then
  (C zf [.int .i64 a,.int .i64 b',.list aa ak]).bind fun r1=>
  kr ((V.nth r1 0).toList)
 else
  bif (iY:Int)==0 then
  (C zg [.int .i64 a,.int .i64 b',.list aa ak]).bind fun r2=>
  kr ((V.nth r2 0).toList)
  else
  wX C a b' iY ep eK (IntKind.wrap .i64 (b'-a)) (!ep) ak (un fun (cr:Int) (Ap:List V)=>
   (C zh [.list aa Ap,.int .i64 a,.int .i64 b']).bind fun r6=>
   wY C a b' cr ep eK (IntKind.wrap .i64 (b'-a)) ((V.nth r6 0).toInt) ((V.nth (r6.drop 1) 0).toInt) ((((V.nth (r6.drop 1) 0).toInt):Int)==2) Ap (un fun (dy:Int)=>un fun (JD:Int) (od:List V)=>
    bif ep then
     bif eK then
     mc C a b' cr ep eK (IntKind.wrap .i64 (b'-a)) dy ((JD:Int)==1) od (bY (un fun (IV:Bool) (Jr:List V)=>
      kr Jr) (fun (ua:List V)=>
      bif decide ((a:Int)>0) then
       bif (decide (0≤(IntKind.wrap .i64 (a-1))))&&(decide ((IntKind.wrap .i64 (a-1))<(ua.length:Int))) then
       (ua[(IntKind.wrap .i64 (a-1):Int).toNat]?).bind fun fA=>
       bif (decide (0≤dy))&&(decide (dy<(ua.length:Int))) then
        (ua[(dy:Int).toNat]?).bind fun gd=>
        (C aZ [.int .i64 ((fA.cell 0).toInt),.int .i64 ((fA.cell 1).toInt),.list aa ((fA.cell 2).toList),.int .i64 ((gd.cell 0).toInt),.int .i64 ((gd.cell 1).toInt),.list aa ((gd.cell 2).toList)]).bind fun dB=>
        bif !(decide ((((V.nth dB 0).toInt):Int)<0)) then
        (C tx [.int .i64 a,.int .i64 b',.int .i64 dy,.list aa ua]).bind fun iF=>
        kn ((V.nth iF 0).toInt,b',cr,ep,eK,(V.nth (iF.drop 1) 0).toList)
        else
        (C mP [.int .i64 a,.int .i64 b',.int .i64 dy,.list aa ua]).bind fun er=>
        bif decide (((IntKind.wrap .i64 (((V.nth er 0).toInt)-a)):Int)<(IntKind.wrap .i64 (b'-((V.nth er 0).toInt)))) then
         (C fV [.int .i64 a,.int .i64 ((V.nth er 0).toInt),.int .i64 cr,.list aa ((V.nth (er.drop 2) 0).toList)]).bind fun iZ=>
         kn (IntKind.wrap .i64 (((V.nth er 0).toInt)+1),b',cr,decide (((IntKind.wrap .i64 (((V.nth er 0).toInt)-a)):Int)≥(IntKind.wrap .i64 (Int.tdiv (IntKind.wrap .i64 (b'-a)) 8))),(V.nth (er.drop 1) 0).toBool,(V.nth iZ 0).toList)
        else
         (C fV [.int .i64 (IntKind.wrap .i64 (((V.nth er 0).toInt)+1)),.int .i64 b',.int .i64 cr,.list aa ((V.nth (er.drop 2) 0).toList)]).bind fun oh=>
         kn (a,(V.nth er 0).toInt,cr,decide (((IntKind.wrap .i64 (b'-((V.nth er 0).toInt))):Int)≥(IntKind.wrap .i64 (Int.tdiv (IntKind.wrap .i64 (b'-a)) 8))),(V.nth (er.drop 1) 0).toBool,(V.nth oh 0).toList)
       else none
       else none
      else
       (C mP [.int .i64 a,.int .i64 b',.int .i64 dy,.list aa ua]).bind fun jS=>
       bif decide (((IntKind.wrap .i64 (((V.nth jS 0).toInt)-a)):Int)<(IntKind.wrap .i64 (b'-((V.nth jS 0).toInt)))) then
       (C fV [.int .i64 a,.int .i64 ((V.nth jS 0).toInt),.int .i64 cr,.list aa ((V.nth (jS.drop 2) 0).toList)]).bind fun r23=>
       kn (IntKind.wrap .i64 (((V.nth jS 0).toInt)+1),b',cr,decide (((IntKind.wrap .i64 (((V.nth jS 0).toInt)-a)):Int)≥(IntKind.wrap .i64 (Int.tdiv (IntKind.wrap .i64 (b'-a)) 8))),(V.nth (jS.drop 1) 0).toBool,(V.nth r23 0).toList)
       else
       (C fV [.int .i64 (IntKind.wrap .i64 (((V.nth jS 0).toInt)+1)),.int .i64 b',.int .i64 cr,.list aa ((V.nth (jS.drop 2) 0).toList)]).bind fun JE=>
       kn (a,(V.nth jS 0).toInt,cr,decide (((IntKind.wrap .i64 (b'-((V.nth jS 0).toInt))):Int)≥(IntKind.wrap .i64 (Int.tdiv (IntKind.wrap .i64 (b'-a)) 8))),(V.nth (jS.drop 1) 0).toBool,(V.nth JE 0).toList)))
     else
     mc C a b' cr ep eK (IntKind.wrap .i64 (b'-a)) dy false od (bY (un fun (Yw:Bool) (acM:List V)=>
      kr acM) (fun (qs:List V)=>
      bif decide ((a:Int)>0) then
       bif (decide (0≤(IntKind.wrap .i64 (a-1))))&&(decide ((IntKind.wrap .i64 (a-1))<(qs.length:Int))) then
       (qs[(IntKind.wrap .i64 (a-1):Int).toNat]?).bind fun tT=>
       bif (decide (0≤dy))&&(decide (dy<(qs.length:Int))) then
        (qs[(dy:Int).toNat]?).bind fun tU=>
        (C aZ [.int .i64 ((tT.cell 0).toInt),.int .i64 ((tT.cell 1).toInt),.list aa ((tT.cell 2).toList),.int .i64 ((tU.cell 0).toInt),.int .i64 ((tU.cell 1).toInt),.list aa ((tU.cell 2).toList)]).bind fun Eh=>
        bif !(decide ((((V.nth Eh 0).toInt):Int)<0)) then
        (C tx [.int .i64 a,.int .i64 b',.int .i64 dy,.list aa qs]).bind fun Rc=>
        kn ((V.nth Rc 0).toInt,b',cr,ep,eK,(V.nth (Rc.drop 1) 0).toList)
        else
        (C mP [.int .i64 a,.int .i64 b',.int .i64 dy,.list aa qs]).bind fun m9=>
        bif decide (((IntKind.wrap .i64 (((V.nth m9 0).toInt)-a)):Int)<(IntKind.wrap .i64 (b'-((V.nth m9 0).toInt)))) then
         (C fV [.int .i64 a,.int .i64 ((V.nth m9 0).toInt),.int .i64 cr,.list aa ((V.nth (m9.drop 2) 0).toList)]).bind fun r33=>
         kn (IntKind.wrap .i64 (((V.nth m9 0).toInt)+1),b',cr,decide (((IntKind.wrap .i64 (((V.nth m9 0).toInt)-a)):Int)≥(IntKind.wrap .i64 (Int.tdiv (IntKind.wrap .i64 (b'-a)) 8))),(V.nth (m9.drop 1) 0).toBool,(V.nth r33 0).toList)
        else
         (C fV [.int .i64 (IntKind.wrap .i64 (((V.nth m9 0).toInt)+1)),.int .i64 b',.int .i64 cr,.list aa ((V.nth (m9.drop 2) 0).toList)]).bind fun r34=>
         kn (a,(V.nth m9 0).toInt,cr,decide (((IntKind.wrap .i64 (b'-((V.nth m9 0).toInt))):Int)≥(IntKind.wrap .i64 (Int.tdiv (IntKind.wrap .i64 (b'-a)) 8))),(V.nth (m9.drop 1) 0).toBool,(V.nth r34 0).toList)
       else none
       else none
      else
       (C mP [.int .i64 a,.int .i64 b',.int .i64 dy,.list aa qs]).bind fun na=>
       bif decide (((IntKind.wrap .i64 (((V.nth na 0).toInt)-a)):Int)<(IntKind.wrap .i64 (b'-((V.nth na 0).toInt)))) then
       (C fV [.int .i64 a,.int .i64 ((V.nth na 0).toInt),.int .i64 cr,.list aa ((V.nth (na.drop 2) 0).toList)]).bind fun r36=>
       kn (IntKind.wrap .i64 (((V.nth na 0).toInt)+1),b',cr,decide (((IntKind.wrap .i64 (((V.nth na 0).toInt)-a)):Int)≥(IntKind.wrap .i64 (Int.tdiv (IntKind.wrap .i64 (b'-a)) 8))),(V.nth (na.drop 1) 0).toBool,(V.nth r36 0).toList)
       else
       (C fV [.int .i64 (IntKind.wrap .i64 (((V.nth na 0).toInt)+1)),.int .i64 b',.int .i64 cr,.list aa ((V.nth (na.drop 2) 0).toList)]).bind fun r37=>
       kn (a,(V.nth na 0).toInt,cr,decide (((IntKind.wrap .i64 (b'-((V.nth na 0).toInt))):Int)≥(IntKind.wrap .i64 (Int.tdiv (IntKind.wrap .i64 (b'-a)) 8))),(V.nth (na.drop 1) 0).toBool,(V.nth r37 0).toList)))
    else
     mc C a b' cr ep eK (IntKind.wrap .i64 (b'-a)) dy false od (bY (un fun (O9:Bool) (acN:List V)=>
      kr acN) (fun (jt:List V)=>
      bif decide ((a:Int)>0) then
      bif (decide (0≤(IntKind.wrap .i64 (a-1))))&&(decide ((IntKind.wrap .i64 (a-1))<(jt.length:Int))) then
       (jt[(IntKind.wrap .i64 (a-1):Int).toNat]?).bind fun ma=>
       bif (decide (0≤dy))&&(decide (dy<(jt.length:Int))) then
       (jt[(dy:Int).toNat]?).bind fun tW=>
       (C aZ [.int .i64 ((ma.cell 0).toInt),.int .i64 ((ma.cell 1).toInt),.list aa ((ma.cell 2).toList),.int .i64 ((tW.cell 0).toInt),.int .i64 ((tW.cell 1).toInt),.list aa ((tW.cell 2).toList)]).bind fun r43=>
       bif !(decide ((((V.nth r43 0).toInt):Int)<0)) then
        (C tx [.int .i64 a,.int .i64 b',.int .i64 dy,.list aa jt]).bind fun Re=>
        kn ((V.nth Re 0).toInt,b',cr,ep,eK,(V.nth (Re.drop 1) 0).toList)
       else
        (C mP [.int .i64 a,.int .i64 b',.int .i64 dy,.list aa jt]).bind fun nc=>
        bif decide (((IntKind.wrap .i64 (((V.nth nc 0).toInt)-a)):Int)<(IntKind.wrap .i64 (b'-((V.nth nc 0).toInt)))) then
        (C fV [.int .i64 a,.int .i64 ((V.nth nc 0).toInt),.int .i64 cr,.list aa ((V.nth (nc.drop 2) 0).toList)]).bind fun r46=>
        kn (IntKind.wrap .i64 (((V.nth nc 0).toInt)+1),b',cr,decide (((IntKind.wrap .i64 (((V.nth nc 0).toInt)-a)):Int)≥(IntKind.wrap .i64 (Int.tdiv (IntKind.wrap .i64 (b'-a)) 8))),(V.nth (nc.drop 1) 0).toBool,(V.nth r46 0).toList)
        else
        (C fV [.int .i64 (IntKind.wrap .i64 (((V.nth nc 0).toInt)+1)),.int .i64 b',.int .i64 cr,.list aa ((V.nth (nc.drop 2) 0).toList)]).bind fun r47=>
        kn (a,(V.nth nc 0).toInt,cr,decide (((IntKind.wrap .i64 (b'-((V.nth nc 0).toInt))):Int)≥(IntKind.wrap .i64 (Int.tdiv (IntKind.wrap .i64 (b'-a)) 8))),(V.nth (nc.drop 1) 0).toBool,(V.nth r47 0).toList)
       else none
      else none
      else
      (C mP [.int .i64 a,.int .i64 b',.int .i64 dy,.list aa jt]).bind fun nf=>
      bif decide (((IntKind.wrap .i64 (((V.nth nf 0).toInt)-a)):Int)<(IntKind.wrap .i64 (b'-((V.nth nf 0).toInt)))) then
       (C fV [.int .i64 a,.int .i64 ((V.nth nf 0).toInt),.int .i64 cr,.list aa ((V.nth (nf.drop 2) 0).toList)]).bind fun r49=>
       kn (IntKind.wrap .i64 (((V.nth nf 0).toInt)+1),b',cr,decide (((IntKind.wrap .i64 (((V.nth nf 0).toInt)-a)):Int)≥(IntKind.wrap .i64 (Int.tdiv (IntKind.wrap .i64 (b'-a)) 8))),(V.nth (nf.drop 1) 0).toBool,(V.nth r49 0).toList)
      else
       (C fV [.int .i64 (IntKind.wrap .i64 (((V.nth nf 0).toInt)+1)),.int .i64 b',.int .i64 cr,.list aa ((V.nth (nf.drop 2) 0).toList)]).bind fun r50=>
       kn (a,(V.nth nf 0).toInt,cr,decide (((IntKind.wrap .i64 (b'-((V.nth nf 0).toInt))):Int)≥(IntKind.wrap .i64 (Int.tdiv (IntKind.wrap .i64 (b'-a)) 8))),(V.nth (nf.drop 1) 0).toBool,(V.nth r50 0).toList)))))
noncomputable def Rf (C:ag):(Int × Int × Int × Bool × Bool × (List V))→Option ((Int × Int × Int × Bool × Bool × (List V)) ⊕ (List V)):=un fun a=>un fun b'=>un fun iY=>un fun ep=>un fun eK ak=>pd C a b' iY ep eK ak (fun y=>some (.inl y)) (fun r=>some (.inr r))
noncomputable def Rg (C:ag):cy:=fun β n ds k=>
 bif Nat.beq n 639 then iA Ii [[1,2,0,4,5,6,0]] (@wX C) ds k else
 bif Nat.beq n 911 then iA Ij [[1,2,3,4,5,6,0,0,0]] (@wY C) ds k else
 bif Nat.beq n 1215 then iA Ik [[1,2,3,4,5,6,7,0,0],[1,2,3,4,5,6,7,0]] (@mc C) ds k else
 bif Nat.beq n 33 then cj Il [true,true,true,true,true,true] [[0]] (@pd C) ds k else
 none
abbrev Er (C:ag) (b:cu):Prop:=cv Try.prog ay C (Rg C) 109 (cM Try.prog (ay.aY 109)) (ay.sin 109).a8.length b
theorem acO (C:ag):Er C (.cond 39 (aw [1,1,0,0,0,1,1,1,0,1,0] ln) (aw [1,1,0,0,0,1,1,1,0,1,1] ln)):=
 iT Ii [[1,2,0,4,5,6,0]] (@wX C) (by kernel_rfl) (bf (bs:=[]) (by kernel_rfl) av) (bf (bs:=[]) (by kernel_rfl) av) (fun ds=>by kernel_rfl) (fun i β k=>by kernel_rfl) (fun β ds k=>by kernel_rfl)
theorem acP (C:ag):Er C (.cond 56 (aw [1,1,0,0,0,1,1,1,1,1,0,1,0] ln) (aw [1,1,0,0,0,1,1,1,1,1,0,1,1] ln)):=
 iT Ij [[1,2,3,4,5,6,0,0,0]] (@wY C) (by kernel_rfl) (bf (bs:=[]) (by kernel_rfl) av) (bf (bs:=[]) (by kernel_rfl) av) (fun ds=>by kernel_rfl) (fun i β k=>by kernel_rfl) (fun β ds k=>by kernel_rfl)
theorem acQ (C:ag):Er C (.cond 75 (aw [1,1,0,0,0,1,1,1,1,1,1,0,1,0] ln) (aw [1,1,0,0,0,1,1,1,1,1,1,0,1,1] ln)):=
 iT Ik [[1,2,3,4,5,6,7,0,0],[1,2,3,4,5,6,7,0]] (@mc C) (by kernel_rfl) (bf (bs:=[]) (by kernel_rfl) av) (bf (bs:=[]) (by kernel_rfl) av) (fun ds=>by kernel_rfl) (fun i β k=>by kernel_rfl) (fun β ds k=>by kernel_rfl)
theorem acR (C:ag):Er C (.loop (aw [1,1,0,0] ln)):=
 cw Il [true,true,true,true,true,true] [[0]] (@pd C) (by kernel_rfl) (bf (bs:=[.cond 39 (aw [1,1,0,0,0,1,1,1,0,1,0] ln) (aw [1,1,0,0,0,1,1,1,0,1,1] ln),.cond 56 (aw [1,1,0,0,0,1,1,1,1,1,0,1,0] ln) (aw [1,1,0,0,0,1,1,1,1,1,0,1,1] ln),.cond 75 (aw [1,1,0,0,0,1,1,1,1,1,1,0,1,0] ln) (aw [1,1,0,0,0,1,1,1,1,1,1,0,1,1] ln)]) (by kernel_rfl) (bG (acO C) (bG (acP C) (bG (acQ C) av)))) (fun ds=>by kernel_rfl) (fun i x=>by kernel_rfl) (fun i x β k=>by kernel_rfl) (fun β ds k=>by kernel_rfl)
noncomputable def Rh (C:ag) (a b' iY:Int) (ak:List V):Option (List V):=
 (Loop (Rf C) (a,b',iY,true,true,ak)).bind (fun (acS:List V)=>
  some [.list aa acS])
theorem acT {a b' iY:Int} {ak:List V} {r:Option (List V)} (h:Rh CC a b' iY ak=r):CC fV [.int .i64 a,.int .i64 b',.int .i64 iY,.list aa ak]=r:=
 a9 (key:=109) (L:=Rg CC) (bs:=[.loop (aw [1,1,0,0] ln)]) (by kernel_rfl) (bG (acR CC) av) (aW (by kernel_rfl) h)
noncomputable def Ri (C:ag) (xs:List V):Option (List V):=
 (C ze [.int .u64 (IntKind.wrap .u64 (xs.length:Int))]).bind fun r1=>
 (C fV [.int .i64 0,.int .i64 (xs.length:Int),.int .i64 ((V.nth r1 0).toInt),.list aa xs]).bind fun r2=>
 some [.list aa ((V.nth r2 0).toList)]
theorem acU {xs:List V} {r:Option (List V)} (h:Ri CC xs=r):CC zd [.list aa xs]=r:=
 a9 (key:=105) (L:=b9) (bs:=[]) (by kernel_rfl) av (aW (by kernel_rfl) h)
end Go.AM
set_option maxRecDepth 100000
set_option maxHeartbeats 4000000
namespace Go.AM.SX
open Go.Proofs Go.Sort
theorem acV (a b:XE):bM a b<0↔a.lt b:=Iff.rfl
theorem Rj (a b:XE):(ax a b=true)=(a.lt b):=by rw[rL];rfl
theorem Et (a b:XE):(ax a b=false)= ¬(a.lt b):=by rw[←Rj];simp
theorem wZ:SWO ax where
 irrefl x:=by rw[Et];exact XE.lt_irrefl x
 trans x y z:=by simp only[Rj];exact XE.lt_trans
 ntrans x y z:=by simp only[Et];exact XE.abA
def Eu:List UInt8:=([0,1,2,2,3,3,3,3,4,4,4,4,4,4,4,4,5,5,5,5,5,5,5,5,5,5,5,5,5,5,5,5,6,6,6,6,6,6,6,6,6,6,6,6,6,6,6,6,6,6,6,6,6,6,6,6,6,6,6,6,6,6,6,6,7,7,7,7,7,7,7,7,7,7,7,7,7,7,7,7,7,7,7,7,7,7,7,7,7,7,7,7,7,7,7,7,7,7,7,7,7,7,7,7,7,7,7,7,7,7,7,7,7,7,7,7,7,7,7,7,7,7,7,7,7,7,7,7,8,8,8,8,8,8,8,8,8,8,8,8,8,8,8,8,8,8,8,8,8,8,8,8,8,8,8,8,8,8,8,8,8,8,8,8,8,8,8,8,8,8,8,8,8,8,8,8,8,8,8,8,8,8,8,8,8,8,8,8,8,8,8,8,8,8,8,8,8,8,8,8,8,8,8,8,8,8,8,8,8,8,8,8,8,8,8,8,8,8,8,8,8,8,8,8,8,8,8,8,8,8,8,8,8,8,8,8,8,8,8,8,8,8,8,8,8,8,8,8,8,8,8,8,8,8,8,8]:List UInt8)
theorem acW:(List.range 256).all (fun y=>match Eu[y]? with|some b=>decide (b.toNat≤8)&&(Nat.beq y 0||(decide (1≤b.toNat)&&decide (2^(b.toNat-1)≤y)))|none=>false)=true:=by decide+kernel
theorem Rk {y:Nat} (h:y<256): ∃b,Eu[y]? =some b∧b.toNat≤8∧(0<y→1≤b.toNat∧2^(b.toNat-1)≤y):=by
 have:=eM.1 acW y (List.mem_range.2 h)
 cases hb:Eu[y]? with
 | none=>rw[hb] at this;cases this
 | some b=>
  rw[hb] at this
  simp only[aI,Bool.or_eq_true,dM] at this
  refine ⟨b,rfl,this.1,fun hy=> ?_⟩
  rcases this.2 with U|U
  ·have:=xm U;omega
  ·exact U
theorem JF {y t k:Nat} (h:2^(t-1)≤y/2^k) (ht:1≤t):2^(t+k-1)≤y:=by
 have e:t+k-1=(t-1)+k:=by omega
 rw[e,Nat.pow_add]
 exact lu (di _ h) (Nat.div_mul_le_self _ _)
noncomputable def w4 (y n:Int):Option (List V):=
(bif decide ((y:Int)≥256) then
    (bif decide (0≤(IntKind.wrap .u8 (Int.fdiv y (2^(min (8:Int).toNat (IntKind.bits .u64)))))) then (([0,1,2,2,3,3,3,3,4,4,4,4,4,4,4,4,5,5,5,5,5,5,5,5,5,5,5,5,5,5,5,5,6,6,6,6,6,6,6,6,6,6,6,6,6,6,6,6,6,6,6,6,6,6,6,6,6,6,6,6,6,6,6,6,7,7,7,7,7,7,7,7,7,7,7,7,7,7,7,7,7,7,7,7,7,7,7,7,7,7,7,7,7,7,7,7,7,7,7,7,7,7,7,7,7,7,7,7,7,7,7,7,7,7,7,7,7,7,7,7,7,7,7,7,7,7,7,7,8,8,8,8,8,8,8,8,8,8,8,8,8,8,8,8,8,8,8,8,8,8,8,8,8,8,8,8,8,8,8,8,8,8,8,8,8,8,8,8,8,8,8,8,8,8,8,8,8,8,8,8,8,8,8,8,8,8,8,8,8,8,8,8,8,8,8,8,8,8,8,8,8,8,8,8,8,8,8,8,8,8,8,8,8,8,8,8,8,8,8,8,8,8,8,8,8,8,8,8,8,8,8,8,8,8,8,8,8,8,8,8,8,8,8,8,8,8,8,8,8,8,8,8,8,8,8,8]:List UInt8)[(IntKind.wrap .u8 (Int.fdiv y (2^(min (8:Int).toNat (IntKind.bits .u64)))):Int).toNat]?).map fun b=>V.int .u8 b.toNat else none).bind fun x5=>
    some [V.int .i64 (IntKind.wrap .i64 ((IntKind.wrap .i64 (n+8))+(IntKind.wrap .i64 x5.toInt)))]
   else
    (bif decide (0≤(IntKind.wrap .u8 y)) then (([0,1,2,2,3,3,3,3,4,4,4,4,4,4,4,4,5,5,5,5,5,5,5,5,5,5,5,5,5,5,5,5,6,6,6,6,6,6,6,6,6,6,6,6,6,6,6,6,6,6,6,6,6,6,6,6,6,6,6,6,6,6,6,6,7,7,7,7,7,7,7,7,7,7,7,7,7,7,7,7,7,7,7,7,7,7,7,7,7,7,7,7,7,7,7,7,7,7,7,7,7,7,7,7,7,7,7,7,7,7,7,7,7,7,7,7,7,7,7,7,7,7,7,7,7,7,7,7,8,8,8,8,8,8,8,8,8,8,8,8,8,8,8,8,8,8,8,8,8,8,8,8,8,8,8,8,8,8,8,8,8,8,8,8,8,8,8,8,8,8,8,8,8,8,8,8,8,8,8,8,8,8,8,8,8,8,8,8,8,8,8,8,8,8,8,8,8,8,8,8,8,8,8,8,8,8,8,8,8,8,8,8,8,8,8,8,8,8,8,8,8,8,8,8,8,8,8,8,8,8,8,8,8,8,8,8,8,8,8,8,8,8,8,8,8,8,8,8,8,8,8,8,8,8,8,8]:List UInt8)[(IntKind.wrap .u8 y:Int).toNat]?).map fun b=>V.int .u8 b.toNat else none).bind fun x6=>
    some [V.int .i64 (IntKind.wrap .i64 (n+(IntKind.wrap .i64 x6.toInt)))])
theorem acX {x:Nat} (h:x<2^64): ∃L:Nat,CC DE [.int .u64 (x:Int)]=some [.int .i64 (L:Int)]∧L≤64∧(0<x→1≤L∧2^(L-1)≤x):=by
 have last: ∀y n:Nat,y<65536→n≤48→∃t:Nat,
   w4 (y:Int) (n:Int)=some [V.int .i64 ((n+t:Nat):Int)]∧t≤16∧(0<y→1≤t∧2^(t-1)≤y):=by
  intro y n hy hn
  unfold w4
  rw[show ([0,1,2,2,3,3,3,3,4,4,4,4,4,4,4,4,5,5,5,5,5,5,5,5,5,5,5,5,5,5,5,5,6,6,6,6,6,6,6,6,6,6,6,6,6,6,6,6,6,6,6,6,6,6,6,6,6,6,6,6,6,6,6,6,7,7,7,7,7,7,7,7,7,7,7,7,7,7,7,7,7,7,7,7,7,7,7,7,7,7,7,7,7,7,7,7,7,7,7,7,7,7,7,7,7,7,7,7,7,7,7,7,7,7,7,7,7,7,7,7,7,7,7,7,7,7,7,7,8,8,8,8,8,8,8,8,8,8,8,8,8,8,8,8,8,8,8,8,8,8,8,8,8,8,8,8,8,8,8,8,8,8,8,8,8,8,8,8,8,8,8,8,8,8,8,8,8,8,8,8,8,8,8,8,8,8,8,8,8,8,8,8,8,8,8,8,8,8,8,8,8,8,8,8,8,8,8,8,8,8,8,8,8,8,8,8,8,8,8,8,8,8,8,8,8,8,8,8,8,8,8,8,8,8,8,8,8,8,8,8,8,8,8,8,8,8,8,8,8,8,8,8,8,8,8,8]:List UInt8)=Eu from rfl]
  by_cases h1:y≥256
  ·have e:Int.fdiv (y:Int) (2^(min (8:Int).toNat (IntKind.bits .u64)))=((y/2^8:Nat):Int):=IU (m:=8) (by omega)
   obtain ⟨b,hb,b1,b2⟩:=Rk (y:=y/2^8) (by omega)
   refine ⟨b.toNat+8,?_,by omega,fun _=> ?_⟩
   ·rw[e,aA,aj (by omega),yY (by omega) (by omega),aA,aj (by omega),Int.toNat_natCast,hb]
    simp only[Option.map_some,Option.bind_some,V.toInt_int]
    simp (disch:=omega) only[wrap64]
    congr 3
    omega
   ·obtain ⟨b3,b4⟩:=b2 (by omega)
    exact ⟨by omega,JF b4 b3⟩
  ·obtain ⟨b,hb,b1,b2⟩:=Rk (y:=y) (by omega)
   refine ⟨b.toNat,?_,by omega,b2⟩
   rw[aA,ai (by omega),yY (by omega) (by omega),aA,aj (by omega),Int.toNat_natCast,hb]
   simp (disch:=omega) only[Option.map_some,Option.bind_some,V.toInt_int,wrap64]
   congr 3
 have mid: ∀y n:Nat,y<4294967296→n≤32→∃t:Nat,∀F:Int→Int→Option (List V),
   (∀y n:Nat,y<65536→n≤48→∃t:Nat,F (y:Int) (n:Int)=some [V.int .i64 ((n+t:Nat):Int)]∧t≤16∧(0<y→1≤t∧2^(t-1)≤y))→
   ∃t:Nat,tZ CC (y:Int) (n:Int) (decide (((y:Int):Int)≥65536)) (un F)=some [V.int .i64 ((n+t:Nat):Int)]∧t≤32∧(0<y→1≤t∧2^(t-1)≤y):=by
  intro y n hy hn
  refine ⟨0,fun F hF=> ?_⟩
  unfold tZ
  by_cases h1:y≥65536
  ·have e:Int.fdiv (y:Int) (2^(min (16:Int).toNat (IntKind.bits .u64)))=((y/2^16:Nat):Int):=IU (m:=16) (by omega)
   rw[aA,aj (by omega),e,wrap64 (by omega) (by omega)]
   obtain ⟨t,U,h3,h4⟩:=hF (y/2^16) (n+16) (by omega) (by omega)
   refine ⟨t+16,?_,by omega,fun _=> ?_⟩
   ·rw[show ((n:Int)+16)=((n+16:Nat):Int) by omega]
    simp only[un]
    rw[U]
    congr 3
    omega
   ·obtain ⟨b3,b4⟩:=h4 (by omega)
    exact ⟨by omega,JF b4 b3⟩
  ·rw[aA,ai (by omega)]
   obtain ⟨t,U,h3,h4⟩:=hF y n (by omega) (by omega)
   exact ⟨t,U,by omega,h4⟩
 by_cases h1:x≥4294967296
 ·have e:Int.fdiv (x:Int) (2^(min (32:Int).toNat (IntKind.bits .u64)))=((x/2^32:Nat):Int):=IU (m:=32) (by omega)
  obtain ⟨_,hm⟩:=mid (x/2^32) 32 (by omega) (by omega)
  obtain ⟨t,U,h3,h4⟩:=hm w4 last
  refine ⟨32+t,Rb ?_,by omega,fun _=> ?_⟩
  ·show tY CC (x:Int) 0 (decide (((x:Int):Int)≥4294967296)) (un fun (rP:Int) (An:Int)=>tZ CC rP An (decide ((rP:Int)≥65536)) (un w4))=_
   unfold tY
   rw[aA,aj (by omega),e]
   exact U
  ·obtain ⟨b3,b4⟩:=h4 (by omega)
   rw[Nat.add_comm 32 t]
   exact ⟨by omega,JF b4 b3⟩
 ·obtain ⟨_,hm⟩:=mid x 0 (by omega) (by omega)
  obtain ⟨t,U,h3,h4⟩:=hm w4 last
  refine ⟨t,Rb ?_,by omega,h4⟩
  show tY CC (x:Int) 0 (decide (((x:Int):Int)≥4294967296)) (un fun (rP:Int) (An:Int)=>tZ CC rP An (decide ((rP:Int)≥65536)) (un w4))=_
  unfold tY
  rw[aA,ai (by omega)]
  rw[gi] at U
  exact U
theorem Rl {x:Nat} (h:x<2^64): ∃L:Nat,CC ze [.int .u64 (x:Int)]=some [.int .i64 (L:Int)]∧L≤64∧(0<x→1≤L∧2^(L-1)≤x):=by
 obtain ⟨L,h1,U⟩:=acX h
 refine ⟨L,acI ?_,U⟩
 unfold Q7
 rw[h1]
 rfl
theorem acY {x:Nat} (h0:0<x) (h:x<1152921504606846976): ∃M:Nat,CC DF [.int .i64 (x:Int)]=some [.int .u64 (M:Int)]∧1≤M∧M≤2*x:=by
 obtain ⟨L,h1,U,h3⟩:=Rl (x:=x) (by omega)
 obtain ⟨h4,h5⟩:=h3 h0
 have e:2^L=2*2^(L-1):=by
  obtain ⟨k,rfl⟩: ∃k,L=k+1:=⟨L-1,by omega⟩
  rw[Nat.pow_succ];simp only[uv];omega
 have hL:L<64:=by
  by_cases hx:L<64
  ·exact hx
  ·have:2^63≤2^(L-1):=Nat.pow_le_pow_right (by omega) (by omega)
   omega
 refine ⟨2^L,acH ?_,Nat.pos_of_ne_zero (by simp),by omega⟩
 unfold Q6
 rw[zu (A:=x) (by omega),h1]
 simp only[Option.bind_some,V.aS,V.toInt_int]
 rw[aA,aj (by omega),Int.toNat_natCast,Yj hL]
theorem acZ (r:Int): ∃R:Nat,CC DG [.int .u64 r]=some [.int .u64 (R:Int),.int .u64 (R:Int)]∧R<2^64:=by
 have h: ∀n:Int,∃R:Nat,IntKind.wrap .u64 n=(R:Int)∧R<2^64:=fun n=>⟨(IntKind.wrap .u64 n).toNat,by rw[wrap_u64];omega,by rw[wrap_u64];omega⟩
 obtain ⟨R,h1,U⟩:=h _
 exact ⟨R,acG (by unfold Q5;rw[h1]),U⟩
theorem Ev {d:Array XE} {i:Nat} (h:i<d.size):idx (eA d) (i:Int)=some (d[i]!).enc:=by rw[NZ,fw h]
theorem JG {d:Array XE} {a b:Nat} {s:Int} (ha:a<d.size) (hb:b<d.size): ∃(x y:Nat) (s':Int),CC vX [.list aa (eA d),.int .i64 (a:Int),.int .i64 (b:Int),.int .i64 s]=some [.int .i64 (x:Int),.int .i64 (y:Int),.int .i64 s']∧(x=a∧y=b∨x=b∧y=a):=by
 by_cases h:bM d[b]! d[a]! <0
 ·refine ⟨b,a,_,Q0 (by unfold JC;rw[Ev hb,Ev ha];simp only[Option.bind_some,XE.bq,XE.br,XE.bt,gb,V.aS,V.toInt_int];rw[aA,aj h]),.inr ⟨rfl,rfl⟩⟩
 ·refine ⟨a,b,_,Q0 (by unfold JC;rw[Ev hb,Ev ha];simp only[Option.bind_some,XE.bq,XE.br,XE.bt,gb,V.aS,V.toInt_int];rw[aA,ai h]),.inl ⟨rfl,rfl⟩⟩
theorem JH {d:Array XE} {a b c:Nat} {s:Int} (ha:a<d.size) (hb:b<d.size) (hc:c<d.size): ∃(m:Nat) (s':Int),CC zj [.list aa (eA d),.int .i64 (a:Int),.int .i64 (b:Int),.int .i64 (c:Int),.int .i64 s]=some [.int .i64 (m:Int),.int .i64 s']∧(m=a∨m=b∨m=c):=by
 obtain ⟨x1,y1,s1,e1,o1⟩:=JG (s:=s) ha hb
 obtain ⟨x2,y2,s2,e2,o2⟩:=JG (d:=d) (a:=y1) (b:=c) (s:=s1) (by omega) hc
 obtain ⟨x3,y3,s3,e3,o3⟩:=JG (d:=d) (a:=x1) (b:=x2) (s:=s2) (by omega) (by omega)
 refine ⟨y3,s3,acB ?_,by omega⟩
 unfold QZ
 rw[e1]
 simp only[Option.bind_some,V.aS,V.qh,V.toInt_int,j4,iI]
 rw[e2]
 simp only[Option.bind_some,V.aS,V.qh,V.toInt_int,j4,iI]
 rw[e3]
 rfl
theorem JI {d:Array XE} {a:Nat} {s:Int} (h1:1≤a) (ha:a+1<d.size) (hs:d.size<1152921504606846976): ∃(m:Nat) (s':Int),CC vW [.list aa (eA d),.int .i64 (a:Int),.int .i64 s]=some [.int .i64 (m:Int),.int .i64 s']∧a≤m+1∧m≤a+1:=by
 obtain ⟨m,s',e,o⟩:=JH (d:=d) (a:=a-1) (b:=a) (c:=a+1) (s:=s) (by omega) (by omega) (by omega)
 refine ⟨m,s',acC ?_,by omega,by omega⟩
 unfold Q1
 simp (disch:=omega) only[jR,dx,wrap64]
 rw[e]
 rfl
theorem JJ (n:Nat):Int.tdiv (n:Int) 4=((n/4:Nat):Int):=by
 have:=divC n 4
 exact this
theorem mulC (k n:Nat):((k:Nat):Int)*(n:Int)=((k*n:Nat):Int):=(Int.natCast_mul k n).symm
theorem ac0 {d:Array XE} {a b:Nat} (eP:a+12<b) (hb:b≤d.size) (hs:d.size<1152921504606846976): ∃(p:Nat) (h:Int),CC zh [.list aa (eA d),.int .i64 (a:Int),.int .i64 (b:Int)]=some [.int .i64 (p:Int),.int .i64 h]∧a≤p∧p<b:=by
 have fin: ∀(p:Nat) (s:Int),∃h:Int,(bif (s:Int)==0 then some [V.int .i64 (p:Int),V.int .i64 1] else bif (s:Int)==12 then some [V.int .i64 (p:Int),V.int .i64 2] else some [V.int .i64 (p:Int),V.int .i64 0])=some [V.int .i64 (p:Int),V.int .i64 h]:=by
  intro p s
  rw[eS]
  split
  ·exact ⟨1,rfl⟩
  ·rw[eS]
   split
   ·exact ⟨2,rfl⟩
   ·exact ⟨0,rfl⟩
 have e1:IntKind.wrap .i64 ((b:Int)-(a:Int))=((b-a:Nat):Int):=by rw[l8 (by omega),wrap64 (by omega) (by omega)]
 have e2:IntKind.wrap .i64 (Int.tdiv ((b-a:Nat):Int) 4)=(((b-a)/4:Nat):Int):=by rw[JJ,wrap64 (by omega) (by omega)]
 have e3: ∀k:Nat,k≤3→IntKind.wrap .i64 ((a:Int)+IntKind.wrap .i64 ((k:Int)*(((b-a)/4:Nat):Int)))=((a+k*((b-a)/4):Nat):Int):=by
  intro k hk
  have lP:k*((b-a)/4)≤3*((b-a)/4):=di _ hk
  simp (disch:=omega) only[mulC,wrap64,fx]
 have JK:=e3 1 (by omega)
 have rQ:=e3 2 (by omega)
 have JL:=e3 3 (by omega)
 rw[show ((1:Nat):Int)=1 from rfl] at JK
 rw[show ((2:Nat):Int)=2 from rfl] at rQ
 rw[show ((3:Nat):Int)=3 from rfl] at JL
 by_cases h50:b-a≥50
 ·obtain ⟨m1,s1,q1,r1⟩:=JI (d:=d) (a:=a+1*((b-a)/4)) (s:=0) (by omega) (by omega) hs
  obtain ⟨m2,s2,q2,r2⟩:=JI (d:=d) (a:=a+2*((b-a)/4)) (s:=s1) (by omega) (by omega) hs
  obtain ⟨m3,s3,q3,r3⟩:=JI (d:=d) (a:=a+3*((b-a)/4)) (s:=s2) (by omega) (by omega) hs
  obtain ⟨m,s,q,r⟩:=JH (d:=d) (a:=m1) (b:=m2) (c:=m3) (s:=s3) (by omega) (by omega) (by omega)
  obtain ⟨h,hf⟩:=fin m s
  refine ⟨m,h,QY ?_,by omega,by omega⟩
  unfold JA Ak Aj
  rw[e1,e2,JK,rQ,JL,mW (by omega),cond_true,mW (by omega),cond_true,q1]
  simp only[Option.bind_some,V.aS,V.qh,V.toInt_int,j4,iI]
  rw[q2]
  simp only[Option.bind_some,V.aS,V.qh,V.toInt_int,j4,iI]
  rw[q3]
  simp only[Option.bind_some,V.aS,V.qh,V.toInt_int,j4,iI,un]
  rw[q]
  exact hf
 ·obtain ⟨m,s,q,r⟩:=JH (d:=d) (a:=a+1*((b-a)/4)) (b:=a+2*((b-a)/4)) (c:=a+3*((b-a)/4)) (s:=0) (by omega) (by omega) (by omega)
  obtain ⟨h,hf⟩:=fin m s
  refine ⟨m,h,QY ?_,by omega,by omega⟩
  unfold JA Ak Aj
  rw[e1,e2,JK,rQ,JL,mW (by omega),cond_true,rJ (by omega),cond_false]
  simp only[un]
  rw[q]
  exact hf
theorem ac1 {a b M:Nat} (hM1:1≤M) (hM:M≤2*(b-a)) (h8:8≤b-a) (hB:b<1152921504606846976): ∀(n i:Nat) (d:Array XE) (r:Int),a+2*((b-a)/4)+2-i=n→a≤i→b≤d.size→d.size<1152921504606846976→
  ∃x y z R,Loop (Ep CC a (b-a:Nat) M) ((i:Int),eA d,r)=some (x,y,eA R,z)∧PermIn a b d R:=by
 have e2:IntKind.wrap .i64 (Int.tdiv ((b-a:Nat):Int) 4)=(((b-a)/4:Nat):Int):=by rw[JJ,wrap64 (by omega) (by omega)]
 have rQ:IntKind.wrap .i64 ((a:Int)+IntKind.wrap .i64 (2*(((b-a)/4:Nat):Int)))=((a+2*((b-a)/4):Nat):Int):=by
  have:=mulC 2 ((b-a)/4)
  rw[show ((2:Nat):Int)=2 from rfl] at this
  rw[this]
  simp (disch:=omega) only[wrap64,fx]
 intro n
 induction n with
 | zero=>
  intro i d r hn hi hb hs
  refine ⟨(i:Int),false,r,d,bc ?_,permIn_refl _ _ _⟩
  simp only[Ep,Am,un]
  rw[e2,rQ,dx,wrap64 (by omega) (by omega),rJ (by omega),cond_false]
 | succ n ih=>
  intro i d r hn hi hb hs
  obtain ⟨R1,q1,q2⟩:=acZ r
  obtain ⟨o,ho,kT⟩: ∃o:Nat,(o=if R1&&&(M-1)≥b-a then (R1&&&(M-1))-(b-a) else R1&&&(M-1))∧o<b-a:=by
   refine ⟨_,rfl,?_⟩
   have:R1&&&(M-1)≤M-1:=Nat.and_le_right
   split<;>omega
  have hand:R1&&&(M-1)≤M-1:=Nat.and_le_right
  have hP:=swp_permIn (α:=XE) d a b i (a+o) hi (by omega) (by omega) (by omega) hb
  obtain ⟨x,y,z,R,e,hR⟩:=ih (i+1) (swp d i (a+o)) (R1:Int) (by omega) (by omega) (by rw[size_swp];exact hb) (by rw[size_swp];exact hs)
  refine ⟨x,y,z,R,(bS ?_).trans e,permIn_trans _ _ _ a b hP hR⟩
  simp only[Ep,Am,un]
  rw[e2,rQ,dx,wrap64 (x:=((a+2*((b-a)/4)+1:Nat):Int)) (by omega) (by omega),mW (by omega),cond_true,q1]
  simp only[Option.bind_some,V.aS,V.qh,V.toInt_int,j4,iI]
  have e5:IntKind.wrap .u64 ((M:Int)-1)=((M-1:Nat):Int):=by rw[jR hM1,zu (by omega)]
  rw[e5,u64_and q2 (by omega),wrap64 (x:=((R1&&&(M-1):Nat):Int)) (by omega) (by omega)]
  have fin: ∀k:Int,k=(o:Int)→(bif (decide (0≤(IntKind.wrap .i64 ((a:Int)+k))))&&(decide ((IntKind.wrap .i64 ((a:Int)+k))<((eA d).length:Int))) then
   ((eA d)[(IntKind.wrap .i64 ((a:Int)+k):Int).toNat]?).bind fun x4=>
   bif (decide (0≤(i:Int)))&&(decide ((i:Int)<((eA d).length:Int))) then
    ((eA d)[((i:Int):Int).toNat]?).bind fun x5=>
    bif (decide (0≤(i:Int)))&&(decide ((i:Int)<((eA d).length:Int))) then
    ((eA d)[((i:Int):Int).toNat]?).bind fun x6=>
    bif (decide (0≤(IntKind.wrap .i64 ((a:Int)+k))))&&(decide ((IntKind.wrap .i64 ((a:Int)+k))<(((eA d).set (((i:Int):Int).toNat) (.agg [.int .i64 ((x4.cell 0).toInt),.int .i64 ((x4.cell 1).toInt),.list aa ((x4.cell 2).toList)])).length:Int))) then
     (((eA d).set (((i:Int):Int).toNat) (.agg [.int .i64 ((x4.cell 0).toInt),.int .i64 ((x4.cell 1).toInt),.list aa ((x4.cell 2).toList)]))[(IntKind.wrap .i64 ((a:Int)+k):Int).toNat]?).bind fun x7=>
     some (.inl (IntKind.wrap .i64 ((i:Int)+1),((eA d).set (((i:Int):Int).toNat) (.agg [.int .i64 ((x4.cell 0).toInt),.int .i64 ((x4.cell 1).toInt),.list aa ((x4.cell 2).toList)])).set ((IntKind.wrap .i64 ((a:Int)+k):Int).toNat) (.agg [.int .i64 ((x5.cell 0).toInt),.int .i64 ((x5.cell 1).toInt),.list aa ((x5.cell 2).toList)]),(R1:Int)))
    else none
    else none
   else none
   else none:Option ((Int × List V × Int) ⊕ (Int × Bool × List V × Int)))=some (.inl (((i+1:Nat):Int),eA (swp d i (a+o)),(R1:Int))):=by
   intro k hk
   subst hk
   simp (disch:=omega) only[aA,dg,gC,aj,ai,wrap64,dx,fx,Int.toNat_natCast,Option.bind_some,fu,fw,XE.bq,XE.br,XE.bt,XE.re,fv,hG,gm,gb,V.aS,V.toInt_int,cond_true,cond_false]
   rfl
  unfold Eo
  by_cases h:R1&&&(M-1)≥b-a
  ·rw[aj h] at ho
   rw[mW (by omega),cond_true]
   exact fin _ (by rw[l8 (by omega),wrap64 (by omega) (by omega)];omega)
  ·rw[ai h] at ho
   rw[rJ (by omega),cond_false]
   exact fin _ (by omega)
theorem ac2 {a b:Nat} {d:Array XE} (eP:a+12<b) (hb:b≤d.size) (hs:d.size<1152921504606846976): ∃R,CC DB [.int .i64 (a:Int),.int .i64 (b:Int),.list aa (eA d)]=some [.list aa (eA R)]∧PermIn a b d R:=by
 obtain ⟨M,q1,q2,q3⟩:=acY (x:=b-a) (by omega) (by omega)
 have e1:IntKind.wrap .i64 ((b:Int)-(a:Int))=((b-a:Nat):Int):=by rw[l8 (by omega),wrap64 (by omega) (by omega)]
 have e2:IntKind.wrap .i64 (Int.tdiv ((b-a:Nat):Int) 4)=(((b-a)/4:Nat):Int):=by rw[JJ,wrap64 (by omega) (by omega)]
 have rQ:IntKind.wrap .i64 ((a:Int)+IntKind.wrap .i64 (2*(((b-a)/4:Nat):Int)))=((a+2*((b-a)/4):Nat):Int):=by
  have:=mulC 2 ((b-a)/4)
  rw[show ((2:Nat):Int)=2 from rfl] at this
  rw[this]
  simp (disch:=omega) only[wrap64,fx]
 obtain ⟨x,y,z,R,e,hR⟩:=ac1 (a:=a) (b:=b) (M:=M) q2 q3 (by omega) (by omega) _ (a+2*((b-a)/4)-1) d (IntKind.wrap .u64 ((b-a:Nat):Int)) rfl (by omega) hb hs
 refine ⟨R,acF ?_,hR⟩
 unfold Q4
 rw[e1,aA,aj (by omega),q1]
 simp only[Option.bind_some,V.aS,V.toInt_int]
 rw[e2,rQ,jR (by omega),wrap64 (x:=((a+2*((b-a)/4)-1:Nat):Int)) (by omega) (by omega),e]
 rfl
noncomputable def rR (C:ag) (a b':Int) (ep eK:Bool) (cr dy:Int) (l9:List V) {β:Type} (kn:(Int × Int × Int × Bool × Bool × (List V))→Option β):Option β:=
      bif decide ((a:Int)>0) then
       bif (decide (0≤(IntKind.wrap .i64 (a-1))))&&(decide ((IntKind.wrap .i64 (a-1))<(l9.length:Int))) then
       (l9[(IntKind.wrap .i64 (a-1):Int).toNat]?).bind fun jr=>
       bif (decide (0≤dy))&&(decide (dy<(l9.length:Int))) then
        (l9[(dy:Int).toNat]?).bind fun m7=>
        (C aZ [.int .i64 ((jr.cell 0).toInt),.int .i64 ((jr.cell 1).toInt),.list aa ((jr.cell 2).toList),.int .i64 ((m7.cell 0).toInt),.int .i64 ((m7.cell 1).toInt),.list aa ((m7.cell 2).toList)]).bind fun lk=>
        bif !(decide ((((V.nth lk 0).toInt):Int)<0)) then
        (C tx [.int .i64 a,.int .i64 b',.int .i64 dy,.list aa l9]).bind fun kB=>
        kn ((V.nth kB 0).toInt,b',cr,ep,eK,(V.nth (kB.drop 1) 0).toList)
        else
        (C mP [.int .i64 a,.int .i64 b',.int .i64 dy,.list aa l9]).bind fun dB=>
        bif decide (((IntKind.wrap .i64 (((V.nth dB 0).toInt)-a)):Int)<(IntKind.wrap .i64 (b'-((V.nth dB 0).toInt)))) then
         (C fV [.int .i64 a,.int .i64 ((V.nth dB 0).toInt),.int .i64 cr,.list aa ((V.nth (dB.drop 2) 0).toList)]).bind fun iF=>
         kn (IntKind.wrap .i64 (((V.nth dB 0).toInt)+1),b',cr,decide (((IntKind.wrap .i64 (((V.nth dB 0).toInt)-a)):Int)≥(IntKind.wrap .i64 (Int.tdiv (IntKind.wrap .i64 (b'-a)) 8))),(V.nth (dB.drop 1) 0).toBool,(V.nth iF 0).toList)
        else
         (C fV [.int .i64 (IntKind.wrap .i64 (((V.nth dB 0).toInt)+1)),.int .i64 b',.int .i64 cr,.list aa ((V.nth (dB.drop 2) 0).toList)]).bind fun er=>
         kn (a,(V.nth dB 0).toInt,cr,decide (((IntKind.wrap .i64 (b'-((V.nth dB 0).toInt))):Int)≥(IntKind.wrap .i64 (Int.tdiv (IntKind.wrap .i64 (b'-a)) 8))),(V.nth (dB.drop 1) 0).toBool,(V.nth er 0).toList)
       else none
       else none
      else
       (C mP [.int .i64 a,.int .i64 b',.int .i64 dy,.list aa l9]).bind fun iZ=>
       bif decide (((IntKind.wrap .i64 (((V.nth iZ 0).toInt)-a)):Int)<(IntKind.wrap .i64 (b'-((V.nth iZ 0).toInt)))) then
       (C fV [.int .i64 a,.int .i64 ((V.nth iZ 0).toInt),.int .i64 cr,.list aa ((V.nth (iZ.drop 2) 0).toList)]).bind fun oh=>
       kn (IntKind.wrap .i64 (((V.nth iZ 0).toInt)+1),b',cr,decide (((IntKind.wrap .i64 (((V.nth iZ 0).toInt)-a)):Int)≥(IntKind.wrap .i64 (Int.tdiv (IntKind.wrap .i64 (b'-a)) 8))),(V.nth (iZ.drop 1) 0).toBool,(V.nth oh 0).toList)
       else
       (C fV [.int .i64 (IntKind.wrap .i64 (((V.nth iZ 0).toInt)+1)),.int .i64 b',.int .i64 cr,.list aa ((V.nth (iZ.drop 2) 0).toList)]).bind fun jS=>
       kn (a,(V.nth iZ 0).toInt,cr,decide (((IntKind.wrap .i64 (b'-((V.nth iZ 0).toInt))):Int)≥(IntKind.wrap .i64 (Int.tdiv (IntKind.wrap .i64 (b'-a)) 8))),(V.nth (iZ.drop 1) 0).toBool,(V.nth jS 0).toList)
theorem Ew (C:ag) (a b' iY:Int) (ep eK:Bool) (ak:List V) {β:Type} (kn:(Int × Int × Int × Bool × Bool × (List V))→Option β) (kr:(List V)→Option β):
  pd C a b' iY ep eK ak kn kr=
 bif decide (((IntKind.wrap .i64 (b'-a)):Int)≤12) then
  (C zf [.int .i64 a,.int .i64 b',.list aa ak]).bind fun r1=>
  kr ((V.nth r1 0).toList)
 else
  bif (iY:Int)==0 then
  (C zg [.int .i64 a,.int .i64 b',.list aa ak]).bind fun r2=>
  kr ((V.nth r2 0).toList)
  else
  wX C a b' iY ep eK (IntKind.wrap .i64 (b'-a)) (!ep) ak (un fun (cr:Int) (Ap:List V)=>
   (C zh [.list aa Ap,.int .i64 a,.int .i64 b']).bind fun r6=>
   wY C a b' cr ep eK (IntKind.wrap .i64 (b'-a)) ((V.nth r6 0).toInt) ((V.nth (r6.drop 1) 0).toInt) ((((V.nth (r6.drop 1) 0).toInt):Int)==2) Ap (un fun (dy:Int)=>un fun (JD:Int) (od:List V)=>
    bif ep then
     bif eK then
     mc C a b' cr ep eK (IntKind.wrap .i64 (b'-a)) dy ((JD:Int)==1) od (bY (un fun (O2:Bool) (JM:List V)=>
      kr JM) (fun (l9:List V)=>rR C a b' ep eK cr dy l9 kn))
     else
     mc C a b' cr ep eK (IntKind.wrap .i64 (b'-a)) dy false od (bY (un fun (O8:Bool) (ac3:List V)=>
      kr ac3) (fun (ac4:List V)=>rR C a b' ep eK cr dy ac4 kn))
    else
     mc C a b' cr ep eK (IntKind.wrap .i64 (b'-a)) dy false od (bY (un fun (YC:Bool) (ac5:List V)=>
      kr ac5) (fun (ac6:List V)=>rR C a b' ep eK cr dy ac6 kn)))):=rfl
section
variable {a b:Nat} {lim:Int} {wb wp:Bool}
theorem ac7 {d:Array XE} (eP:a+12<b) (hb:b≤d.size) (hs:d.size<1152921504606846976) (len:Int) (t:Bool): ∃(l1:Int) (d1:Array XE),PermIn a b d d1∧∀(β:Type) (kr:(Int × List V)→Option β),wX CC a b lim wb wp len t (eA d) kr=kr (l1,eA d1):=by
 cases t with
 | true=>
  obtain ⟨R,e,hR⟩:=ac2 eP hb hs
  refine ⟨IntKind.wrap .i64 (lim-1),R,hR,fun β kr=> ?_⟩
  unfold wX
  rw[cond_true,e]
  rfl
 | false=>exact ⟨lim,d,permIn_refl _ _ _,fun β kr=>rfl⟩
theorem ac8 {d:Array XE} (eP:a+12<b) (hb:b≤d.size) (hs:d.size<1152921504606846976) (len h:Int) (t:Bool) {p:Nat} (h1:a≤p) (U:p<b): ∃(p2:Nat) (U:Int) (d1:Array XE),a≤p2∧p2<b∧PermIn a b d d1∧∀(β:Type) (kr:(Int × Int × List V)→Option β),wY CC a b lim wb wp len p h t (eA d) kr=kr ((p2:Int),U,eA d1):=by
 cases t with
 | true=>
  refine ⟨b-1-(p-a),1,reverseRange d a b,by omega,by omega,reverseRange_holds d a b (by omega) hb,fun β kr=> ?_⟩
  unfold wY
  rw[cond_true,abV (by omega) hb hs]
  simp (disch:=omega) only[Option.bind_some,V.aS,V.ld,jR,l8,wrap64]
 | false=>exact ⟨p,h,d,h1,U,permIn_refl _ _ _,fun β kr=>rfl⟩
theorem ac9 {d:Array XE} (eP:a+12<b) (hb:b≤d.size) (hs:d.size<1152921504606846976) (hB:Below ax a b d) (len p:Int) (t:Bool): ∃d1:Array XE,PermIn a b d d1∧
  ((∀(β:Type) (kr:((Bool × List V) ⊕ List V)→Option β),mc CC a b lim wb wp len p t (eA d) kr=kr (.inr (eA d1)))∨
  (SortedIn ax a b d1∧∀(β:Type) (kr:((Bool × List V) ⊕ List V)→Option β),mc CC a b lim wb wp len p t (eA d) kr=kr (.inl (true,eA d1)))):=by
 cases t with
 | true=>
  have hp:=partialInsertionSort_holds (lt:=ax) wZ d a b (by omega) hb hB
  refine ⟨_,hp.1,?_⟩
  cases h:(partialInsertionSort ax d a b).2 with
  | true=>
   refine .inr ⟨hp.2 h,fun β kr=> ?_⟩
   unfold mc
   rw[cond_true,QU (by omega) hb hs,h]
   rfl
  | false=>
   refine .inl fun β kr=> ?_
   unfold mc
   rw[cond_true,QU (by omega) hb hs,h]
   rfl
 | false=>exact ⟨d,permIn_refl _ _ _,.inl fun β kr=>rfl⟩
end
def Ey (a b:Nat) (d:Array XE):Prop:= ∀(lim:Int) (wb wp:Bool),∃R,Loop (Rf CC) ((a:Int),(b:Int),lim,wb,wp,eA d)=some (eA R)∧PermIn a b d R∧SortedIn ax a b R
theorem Ey.call {a b:Nat} {d:Array XE} (h:Ey a b d) (lim:Int): ∃R,CC fV [.int .i64 (a:Int),.int .i64 (b:Int),.int .i64 lim,.list aa (eA d)]=some [.list aa (eA R)]∧PermIn a b d R∧SortedIn ax a b R:=by
 obtain ⟨R,e,h1,U⟩:=h lim true true
 refine ⟨R,acT ?_,h1,U⟩
 unfold Rh
 rw[e]
 rfl
theorem ada {a b p:Nat} {d:Array XE} (eP:a+12<b) (hb:b≤d.size) (hs:d.size<1152921504606846976) (hB:Below ax a b d) (h1:a≤p) (U:p<b)
  (ih: ∀(a2 b2:Nat) (d2:Array XE),b2-a2<b-a→a2≤b2→b2≤d2.size→d2.size<1152921504606846976→Below ax a2 b2 d2→Ey a2 b2 d2) (wb wp:Bool) (lim:Int):
  ∃(a2 b2:Nat) (ub uc:Bool) (d2:Array XE),b2-a2<b-a∧a2≤b2∧b2≤d2.size∧d2.size<1152921504606846976∧Below ax a2 b2 d2∧
   (∀R,PermIn a2 b2 d2 R→SortedIn ax a2 b2 R→PermIn a b d R∧SortedIn ax a b R)∧
   ∀(β:Type) (kn:(Int × Int × Int × Bool × Bool × (List V))→Option β),rR CC a b wb wp lim p (eA d) kn=kn ((a2:Int),(b2:Int),lim,ub,uc,eA d2):=by
 have part: ∃(a2 b2:Nat) (ub uc:Bool) (d2:Array XE),b2-a2<b-a∧a2≤b2∧b2≤d2.size∧d2.size<1152921504606846976∧Below ax a2 b2 d2∧
   (∀R,PermIn a2 b2 d2 R→SortedIn ax a2 b2 R→PermIn a b d R∧SortedIn ax a b R)∧
   ∀(β:Type) (kn:(Int × Int × Int × Bool × Bool × (List V))→Option β),
    ((CC mP [.int .i64 (a:Int),.int .i64 (b:Int),.int .i64 (p:Int),.list aa (eA d)]).bind fun dB=>
        bif decide (((IntKind.wrap .i64 (((V.nth dB 0).toInt)-(a:Int))):Int)<(IntKind.wrap .i64 ((b:Int)-((V.nth dB 0).toInt)))) then
         (CC fV [.int .i64 (a:Int),.int .i64 ((V.nth dB 0).toInt),.int .i64 lim,.list aa ((V.nth (dB.drop 2) 0).toList)]).bind fun iF=>
         kn (IntKind.wrap .i64 (((V.nth dB 0).toInt)+1),(b:Int),lim,decide (((IntKind.wrap .i64 (((V.nth dB 0).toInt)-(a:Int))):Int)≥(IntKind.wrap .i64 (Int.tdiv (IntKind.wrap .i64 ((b:Int)-(a:Int))) 8))),(V.nth (dB.drop 1) 0).toBool,(V.nth iF 0).toList)
        else
         (CC fV [.int .i64 (IntKind.wrap .i64 (((V.nth dB 0).toInt)+1)),.int .i64 (b:Int),.int .i64 lim,.list aa ((V.nth (dB.drop 2) 0).toList)]).bind fun er=>
         kn ((a:Int),(V.nth dB 0).toInt,lim,decide (((IntKind.wrap .i64 ((b:Int)-((V.nth dB 0).toInt))):Int)≥(IntKind.wrap .i64 (Int.tdiv (IntKind.wrap .i64 ((b:Int)-(a:Int))) 8))),(V.nth (dB.drop 1) 0).toBool,(V.nth er 0).toList))=kn ((a2:Int),(b2:Int),lim,ub,uc,eA d2):=by
  obtain ⟨mid,ap,d4,hx⟩: ∃mid ap d4,partition ax d a b p=(mid,ap,d4):=⟨_,_,_,rfl⟩
  obtain ⟨g1,g2,oj,hBa,hBr,adb,ade⟩:=round_part wZ (partition_holds ax) h1 U hb hB hx
  have hc:=acp (a:=a) (b:=b) (pivot:=p) (d:=d) U (by omega) hb hs
  rw[hx] at hc
  by_cases hl:mid-a<b-mid
  ·obtain ⟨L,e,l1,l2⟩:=(ih a mid d4 (by omega) g1 (by rw[oj];omega) (by rw[oj];exact hs) hBa).call lim
   obtain ⟨JN,Aq⟩:=adb _ l1 l2
   refine ⟨mid+1,b,decide (((IntKind.wrap .i64 ((mid:Int)-(a:Int))):Int)≥(IntKind.wrap .i64 (Int.tdiv (IntKind.wrap .i64 ((b:Int)-(a:Int))) 8))),ap,L,by omega,by omega,by rw[l1.1,oj];exact hb,by rw[l1.1,oj];exact hs,JN,Aq,fun β kn=> ?_⟩
   ·rw[hc]
    simp only[Option.bind_some,V.aS,V.qh,V.toInt_int,V.dU,V.ld,j4,iI]
    rw[aA,aj (by rw[l8 g1,l8 (by omega),wrap64 (by omega) (by omega),wrap64 (by omega) (by omega)];omega),e]
    simp only[Option.bind_some,V.aS,V.ld]
    rw[dx,wrap64 (x:=((mid+1:Nat):Int)) (by omega) (by omega)]
  ·obtain ⟨L,e,l1,l2⟩:=(ih (mid+1) b d4 (by omega) (by omega) (by rw[oj];exact hb) (by rw[oj];exact hs) hBr).call lim
   obtain ⟨JN,Aq⟩:=ade _ l1 l2
   refine ⟨a,mid,decide (((IntKind.wrap .i64 ((b:Int)-(mid:Int))):Int)≥(IntKind.wrap .i64 (Int.tdiv (IntKind.wrap .i64 ((b:Int)-(a:Int))) 8))),ap,L,by omega,by omega,by rw[l1.1,oj];omega,by rw[l1.1,oj];exact hs,JN,Aq,fun β kn=> ?_⟩
   ·rw[hc]
    simp only[Option.bind_some,V.aS,V.qh,V.toInt_int,V.dU,V.ld,j4,iI]
    rw[aA,ai (by rw[l8 g1,l8 (by omega),wrap64 (by omega) (by omega),wrap64 (by omega) (by omega)];omega),dx,wrap64 (x:=((mid+1:Nat):Int)) (by omega) (by omega),e]
    simp only[Option.bind_some,V.aS,V.ld]
 by_cases ha:0<a
 ·by_cases hc:bM d[a-1]! d[p]! <0
  ·obtain ⟨a2,b2,ub,uc,d2,q1,q2,q3,q4,q5,q6,q7⟩:=part
   refine ⟨a2,b2,ub,uc,d2,q1,q2,q3,q4,q5,q6,fun β kn=> ?_⟩
   rw[←q7 β kn]
   unfold rR
   rw[aA,aj (by omega),jR ha,wrap64 (by omega) (by omega),jT (i:=a-1) (by omega),jU (by omega),jT (i:=p) (by omega),jU (by omega)]
   simp only[XE.bq,XE.br,XE.bt,gb,Option.bind_some,V.aS,V.toInt_int]
   rw[gC,aA,aj hc]
  ·obtain ⟨mid,d4,hx⟩: ∃mid d4,partitionEqual ax d a b p=(mid,d4):=⟨_,_,rfl⟩
   obtain ⟨g1,FU,oj,hB4,Aq⟩:=round_eq wZ (partitionEqual_holds ax) ha h1 U hb hB (by rw[Et,←propext (acV _ _)];exact hc) hx
   have he:=acr (a:=a) (b:=b) (pivot:=p) (d:=d) U (by omega) hb hs
   rw[hx] at he
   refine ⟨mid,b,wb,wp,d4,by omega,FU,by rw[oj];exact hb,by rw[oj];exact hs,hB4,Aq,fun β kn=> ?_⟩
   unfold rR
   rw[aA,aj (by omega),jR ha,wrap64 (by omega) (by omega),jT (i:=a-1) (by omega),jU (by omega),jT (i:=p) (by omega),jU (by omega)]
   simp only[XE.bq,XE.br,XE.bt,gb,Option.bind_some,V.aS,V.toInt_int]
   rw[gC,aA,ai hc,he]
   rfl
 ·obtain ⟨a2,b2,ub,uc,d2,q1,q2,q3,q4,q5,q6,q7⟩:=part
  refine ⟨a2,b2,ub,uc,d2,q1,q2,q3,q4,q5,q6,fun β kn=> ?_⟩
  rw[←q7 β kn]
  unfold rR
  rw[aA,ai (by omega)]
theorem adf: ∀(n a b:Nat) (d:Array XE),b-a≤n→a≤b→b≤d.size→d.size<1152921504606846976→Below ax a b d→Ey a b d:=by
 intro n
 induction n with
 | zero=>
  intro a b d hn eP hb hs hB lim wb wp
  have hi:=insertionSort_holds (lt:=ax) wZ d a b eP hb
  refine ⟨_,bc ?_,hi⟩
  show pd CC a b lim wb wp (eA d) (fun y=>some (Sum.inl y)) (fun r=>some (Sum.inr r))=_
  rw[Ew,aA,aj (by rw[l8 eP,wrap64 (by omega) (by omega)];omega),QC hb hs (by omega)]
  rfl
 | succ n ih=>
  intro a b d hn eP hb hs hB lim wb wp
  by_cases h12:b-a≤12
  ·have hi:=insertionSort_holds (lt:=ax) wZ d a b eP hb
   refine ⟨_,bc ?_,hi⟩
   show pd CC a b lim wb wp (eA d) (fun y=>some (Sum.inl y)) (fun r=>some (Sum.inr r))=_
   rw[Ew,aA,aj (by rw[l8 eP,wrap64 (by omega) (by omega)];omega),QC hb hs (by omega)]
   rfl
  ·have Ar:a+12<b:=by omega
   have ru: ¬(((IntKind.wrap .i64 ((b:Int)-(a:Int))):Int)≤12):=by rw[l8 eP,wrap64 (by omega) (by omega)];omega
   by_cases h0:lim=0
   ·have hi:=heapSort_holds (lt:=ax) wZ d a b eP hb
    refine ⟨_,bc ?_,hi⟩
    show pd CC a b lim wb wp (eA d) (fun y=>some (Sum.inl y)) (fun r=>some (Sum.inr r))=_
    rw[Ew,aA,ai ru,eS,aj h0,abT (by omega) hb hs]
    rfl
   ·obtain ⟨l1,d1,s1,k1⟩:=ac7 (lim:=lim) (wb:=wb) (wp:=wp) Ar hb hs (IntKind.wrap .i64 ((b:Int)-(a:Int))) (!wb)
    have b1:b≤d1.size:=by rw[s1.1];exact hb
    have z1:d1.size<1152921504606846976:=by rw[s1.1];exact hs
    obtain ⟨p,h,c1,p1,p2⟩:=ac0 Ar b1 z1
    obtain ⟨q,U,d2,q1,q2,s2,k2⟩:=ac8 (lim:=l1) (wb:=wb) (wp:=wp) Ar b1 z1 (IntKind.wrap .i64 ((b:Int)-(a:Int))) h (h==2) p1 p2
    have b2:b≤d2.size:=by rw[s2.1];exact b1
    have z2:d2.size<1152921504606846976:=by rw[s2.1];exact z1
    have B2:Below ax a b d2:=(hB.perm hb s1).perm b1 s2
    obtain ⟨t,ht⟩: ∃t:Bool,t=(bif wb then (bif wp then (U==1) else false) else false):=⟨_,rfl⟩
    obtain ⟨d3,s3,k3⟩:=ac9 (lim:=l1) (wb:=wb) (wp:=wp) Ar b2 z2 B2 (IntKind.wrap .i64 ((b:Int)-(a:Int))) (q:Int) t
    have b3:b≤d3.size:=by rw[s3.1];exact b2
    have z3:d3.size<1152921504606846976:=by rw[s3.1];exact z2
    have B3:Below ax a b d3:=B2.perm b2 s3
    have P3:PermIn a b d d3:=permIn_trans _ _ _ a b (permIn_trans _ _ _ a b s1 s2) s3
    have step: ∀(β:Type) (kn:(Int × Int × Int × Bool × Bool × (List V))→Option β) (kr:(List V)→Option β),pd CC a b lim wb wp (eA d) kn kr=
      mc CC a b l1 wb wp (IntKind.wrap .i64 ((b:Int)-(a:Int))) (q:Int) t (eA d2) (bY (un fun (O2:Bool) (JM:List V)=>kr JM) (fun (l9:List V)=>rR CC a b wb wp l1 q l9 kn)):=by
     intro β kn kr
     rw[Ew,aA,ai ru,eS,ai h0,k1]
     simp only[un]
     rw[c1]
     simp only[Option.bind_some,V.aS,V.qh,V.toInt_int,j4,iI]
     rw[k2]
     simp only[un]
     rw[ht]
     cases wb
     ·rfl
     ·cases wp
      ·rfl
      ·rfl
    rcases k3 with k3|⟨k3s,k3⟩
    ·obtain ⟨a4,b4,wb4,wp4,d4,r1,r2,r3,r4,r5,r6,r7⟩:=ada Ar b3 z3 B3 q1 q2 (fun a2 b2 d2 aO h1 U h3 h4=>ih a2 b2 d2 (by omega) h1 U h3 h4) wb wp l1
     obtain ⟨R,e,e1,e2⟩:=ih a4 b4 d4 (by omega) r2 r3 r4 r5 l1 wb4 wp4
     obtain ⟨f1,f2⟩:=r6 R e1 e2
     refine ⟨R,(bS ?_).trans e,permIn_trans _ _ _ a b P3 f1,f2⟩
     show pd CC a b lim wb wp (eA d) (fun y=>some (Sum.inl y)) (fun r=>some (Sum.inr r))=_
     rw[step,k3]
     exact r7 _ (fun y=>some (Sum.inl y))
    ·refine ⟨d3,bc ?_,P3,k3s⟩
     show pd CC a b lim wb wp (eA d) (fun y=>some (Sum.inl y)) (fun r=>some (Sum.inr r))=_
     rw[step,k3]
     rfl
theorem adg (l:List XE) (hs:l.length<1152921504606846976): ∃R:List XE,CC zd [.list aa (l.map XE.enc)]=some [.list aa (R.map XE.enc)]∧R.Perm l∧R.Pairwise (fun x y=> ¬y.lt x):=by
 obtain ⟨L,e1,_⟩:=Rl (x:=l.length) (by omega)
 obtain ⟨R,e2,h1,U⟩:=(adf _ 0 l.toArray.size l.toArray (b6 _) (jY _) (b6 _) (by simpa using hs) (.inl rfl)).call (L:Int)
 have aR:R.size=l.length:=by rw[h1.1];simp
 refine ⟨R.toList,acU ?_,?_,?_⟩
 ·unfold Ri
  rw[bm,zu (A:=l.length) (by omega),e1]
  simp only[Option.bind_some,V.aS,V.toInt_int]
  have e3:eA l.toArray=l.map XE.enc:=by simp[o8]
  rw[e3,show ((l.toArray.size:Nat):Int)=(l.length:Int) by simp,show ((0:Nat):Int)=0 from rfl] at e2
  rw[e2]
  rfl
 ·have h3:=h1.2.2
  rw[show l.toArray.size=R.size from h1.1.symm,Array.extract_size,h1.1,Array.extract_size] at h3
  exact h3
 ·rw[Be]
  intro i j hi hj sW
  have h3:=U i j (jY _) sW (by simpa[←aR] using hj)
  rw[Et] at h3
  have dG:i<R.size:=by simpa using hi
  have fS:j<R.size:=by simpa using hj
  rw[getElem!_pos R i dG,getElem!_pos R j fS] at h3
  simpa using h3
end Go.AM.SX
set_option maxRecDepth 100000
namespace Go.AM
open Go.Proofs
noncomputable abbrev Ez:Code:=cJ Try.prog (ay.aY 106)
noncomputable def w5 (C:ag) (As ud:Nat) (k' jV:Int) (ss:List V) {β:Type} (kn:(Int × Int × (List V))→Option β) (kr:(Int × Int × Bool × (List V))→Option β):Option β:=
 bif decide ((jV:Int)<(ud:Int)) then
  bif (decide (0≤jV))&&(decide (jV<(ud:Int))) then
  (ss[As+((jV:Int).toNat)]?).bind fun x4=>
  bif (decide (0≤(IntKind.wrap .i64 (jV-1))))&&(decide ((IntKind.wrap .i64 (jV-1))<(ud:Int))) then
   (ss[As+((IntKind.wrap .i64 (jV-1):Int).toNat)]?).bind fun x5=>
   (C oZ [.int .i64 ((x4.cell 0).toInt),.int .i64 ((x4.cell 1).toInt),.list aa ((x4.cell 2).toList),.int .i64 ((x5.cell 0).toInt),.int .i64 ((x5.cell 1).toInt),.list aa ((x5.cell 2).toList)]).bind fun r6=>
   bif !((V.nth r6 0).toBool) then
   bif (decide (0≤jV))&&(decide (jV<(ud:Int))) then
    (ss[As+((jV:Int).toNat)]?).bind fun x7=>
    bif (decide (0≤k'))&&(decide (k'<(ss.length:Int))) then
    (ss[(k':Int).toNat]?).bind fun x8=>
    kn (IntKind.wrap .i64 (k'+1),IntKind.wrap .i64 (jV+1),ss.set ((k':Int).toNat) (.agg [.int .i64 ((x7.cell 0).toInt),.int .i64 ((x7.cell 1).toInt),.list aa ((x7.cell 2).toList)]))
    else none
   else none
   else
   kn (k',IntKind.wrap .i64 (jV+1),ss)
  else none
  else none
 else
  kr (k',jV,decide ((jV:Int)<(ud:Int)),ss)
noncomputable def ue (C:ag) (As ud:Nat):(Int × Int × (List V))→Option ((Int × Int × (List V)) ⊕ (Int × Int × Bool × (List V))):=un fun k'=>un fun jV ss=>w5 C As ud k' jV ss (fun y=>some (.inl y)) (fun r=>some (.inr r))
noncomputable def w6 (C:ag) (ss:List V) (k':Int) {β:Type} (kn:Int→Option β) (kr:((List V) ⊕ (Int × Bool))→Option β):Option β:=
 bif decide ((k':Int)<(ss.length:Int)) then
  bif (decide (0≤k'))&&(decide (k'<(ss.length:Int))) then
  (ss[(k':Int).toNat]?).bind fun x1=>
  bif (decide (0≤(IntKind.wrap .i64 (k'-1))))&&(decide ((IntKind.wrap .i64 (k'-1))<(ss.length:Int))) then
   (ss[(IntKind.wrap .i64 (k'-1):Int).toNat]?).bind fun x2=>
   (C oZ [.int .i64 ((x1.cell 0).toInt),.int .i64 ((x1.cell 1).toInt),.list aa ((x1.cell 2).toList),.int .i64 ((x2.cell 0).toInt),.int .i64 ((x2.cell 1).toInt),.list aa ((x2.cell 2).toList)]).bind fun r3=>
   bif (V.nth r3 0).toBool then
   bif (decide (0≤k'))&&(decide (k'≤(ss.length:Int))) then
    (Loop (ue C ((k':Int).toNat) (ss.length-((k':Int).toNat))) (k',1,ss)).bind (un fun (me:Int)=>un fun (ahA:Int)=>un fun (zy:Bool) (qw:List V)=>
     bif (decide (0≤me))&&(decide (me≤(qw.length:Int))) then
     bif (decide (0≤me))&&(decide (me≤((qw.take ((me:Int).toNat)++(List.replicate (qw.length-((me:Int).toNat)) (V.agg [.int .i64 0,.int .i64 0,.list aa ([]:List V)])++qw.drop (((me:Int).toNat)+(qw.length-((me:Int).toNat))))).length:Int))) then
      kr (.inl ((qw.take ((me:Int).toNat)++(List.replicate (qw.length-((me:Int).toNat)) (V.agg [.int .i64 0,.int .i64 0,.list aa ([]:List V)])++qw.drop (((me:Int).toNat)+(qw.length-((me:Int).toNat))))).take ((me:Int).toNat)))
     else none
     else none)
   else none
   else
   kn (IntKind.wrap .i64 (k'+1))
  else none
  else none
 else
  kr (.inr (k',decide ((k':Int)<(ss.length:Int))))
noncomputable def uf (C:ag) (ss:List V):(Int)→Option ((Int) ⊕ ((List V) ⊕ (Int × Bool))):=fun k'=>w6 C ss k' (fun y=>some (.inl y)) (fun r=>some (.inr r))
noncomputable def Rm (C:ag):cy:=fun β n ds k=>
 bif Nat.beq n 145 then cj Ig [true,false,false,true,true] [[0,2,3,0,0,0]] (@w5 C) ds k else
 bif Nat.beq n 65 then cj Ih [true,false] [[0],[0,0,2]] (@w6 C) ds k else
 none
abbrev Rn (C:ag) (b:cu):Prop:=cv Try.prog ay C (Rm C) 106 (cM Try.prog (ay.aY 106)) (ay.sin 106).a8.length b
theorem adh (C:ag):Rn C (.loop (aw [1,1,0,1,0,0,1,0,0,1,0,1,0,1,0,0] Ez)):=
 cw Ig [true,false,false,true,true] [[0,2,3,0,0,0]] (@w5 C) (by kernel_rfl) (bf (bs:=[]) (by kernel_rfl) av) (fun ds=>by kernel_rfl) (fun i x=>by kernel_rfl) (fun i x β k=>by kernel_rfl) (fun β ds k=>by kernel_rfl)
theorem adi (C:ag):Rn C (.loop (aw [1,1,0,1,0,0] Ez)):=
 cw Ih [true,false] [[0],[0,0,2]] (@w6 C) (by kernel_rfl) (bf (bs:=[.loop (aw [1,1,0,1,0,0,1,0,0,1,0,1,0,1,0,0] Ez)]) (by kernel_rfl) (bG (adh C) av)) (fun ds=>by kernel_rfl) (fun i x=>by kernel_rfl) (fun i x β k=>by kernel_rfl) (fun β ds k=>by kernel_rfl)
noncomputable def EA (C:ag) (ss:List V):Option (List V):=
 bif decide (((ss.length:Int):Int)<2) then
  some [V.bool true,.list aa ss]
 else
  (Loop (uf C ss) 1).bind (bY (fun (adj:List V)=>
   some [V.bool false,.list aa adj]) (un fun (ahB:Int) (zA:Bool)=>
   some [V.bool true,.list aa ss]))
theorem JO {ss:List V} {r:Option (List V)} (h:EA CC ss=r):CC DA [.list aa ss]=r:=
 a9 (key:=106) (L:=Rm CC) (bs:=[.loop (aw [1,1,0,1,0,0] Ez)]) (by kernel_rfl) (bG (adi CC) av) (aW (by kernel_rfl) h)
noncomputable def Ro (C:ag) (ga:List V):Option (List V):=
 (C zd [.list aa ga]).bind fun r1=>
 (C DA [.list aa ((V.nth r1 0).toList)]).bind fun r2=>
 bif (V.nth r2 0).toBool then
  some [V.bool true,.list aa ((V.nth (r2.drop 1) 0).toList)]
 else
  some [V.bool false,.list aa ((V.nth (r2.drop 1) 0).toList)]
theorem adk {ga:List V} {r:Option (List V)} (h:Ro CC ga=r):CC tw [.list aa ga]=r:=
 a9 (key:=98) (L:=b9) (bs:=[]) (by kernel_rfl) av (aW (by kernel_rfl) h)
noncomputable def Rp (C:ag) (fW fX:Int) (gE:List V) (fY fZ:Int) (gF:List V):Option (List V):=
 (C aZ [.int .i64 fW,.int .i64 fX,.list aa gE,.int .i64 fY,.int .i64 fZ,.list aa gF]).bind fun r1=>
 some [.bool ((((V.nth r1 0).toInt):Int)==0)]
theorem adl {fW fX:Int} {gE:List V} {fY fZ:Int} {gF:List V} {r:Option (List V)} (h:Rp CC fW fX gE fY fZ gF=r):CC oZ [.int .i64 fW,.int .i64 fX,.list aa gE,.int .i64 fY,.int .i64 fZ,.list aa gF]=r:=
 a9 (key:=107) (L:=b9) (bs:=[]) (by kernel_rfl) av (aW (by kernel_rfl) h)
end Go.AM
set_option maxRecDepth 100000
namespace Go.AM
open Go.Proofs Ex
def ng (prev:Ex):List Ex→List Ex
 | []=>[]
 | x::l=>if cmp x prev=0 then ng x l else x::ng x l
def iG:List Ex→List Ex
 | []=>[]
 | x::l=>x::ng x l
theorem Rq: ∀(m:List Ex) (prev x:Ex),ng prev (m++[x])=ng prev m++(if cmp x ((prev::m).getD m.length ba)=0 then [] else [x])
 | [],prev,x=>by simp only[List.nil_append,ng,List.length_nil,xw]
 | y::m,prev,x=>by
  have ih:=Rq m y x
  simp only[List.cons_append,ng,List.length_cons,List.getD_cons_succ]
  split
  ·exact ih
  ·rw[ih];rfl
theorem Rr {l:List Ex} {p:Nat} (h1:1≤p) (U:p<l.length):iG (l.take (p+1))=iG (l.take p)++(if cmp (l.getD p ba) (l.getD (p-1) ba)=0 then [] else [l.getD p ba]):=by
 match l,p,h1,U with
 | y::l,p+1,_,U=>
  simp only[List.length_cons] at U
  rw[List.take_succ_cons,List.take_succ_cons,iG,iG,kA (by omega),Rq]
  simp only[List.getD_cons_succ,ff,uv]
  rw[show min p l.length=p by omega]
  have:(y::l.take p).getD p ba=(y::l).getD p ba:=by
   match p with
   | 0=>rfl
   | q+1=>simp only[List.getD_cons_succ];rw[hX,hX,eD (by omega)]
  rw[this];rfl
theorem Rs: ∀(m:List Ex) (prev:Ex),(prev::m).Pairwise (fun x y=> ¬y.lx x)→jq (prev::ng prev m)∧∀x,x∈prev::ng prev m↔x∈prev::m
 | [],prev,_=>⟨by simp[ng],by simp[ng]⟩
 | y::m,prev,h=>by
  have h1:=sf.1 h
  obtain ⟨i1,i2⟩:=Rs m y h1.2
  rw[ng]
  by_cases hc:cmp y prev=0
  ·rw[aj hc]
   have:=tH _ _ hc
   subst this
   refine ⟨i1,fun x=> ?_⟩
   rw[i2 x];simp
  ·rw[ai hc]
   have aO:prev.lx y:=by
    by_cases U:prev.lx y
    ·exact U
    ·exact absurd (Ex.PH U (h1.1 y (by simp))) fun e=>hc (by rw[e];exact zC _)
   refine ⟨sf.2 ⟨fun x hx=> ?_,i1⟩,fun x=> ?_⟩
   ·rcases cX.1 hx with rfl|hx
    ·exact aO
    ·exact Ex.I5 aO ((sf.1 i1).1 x hx)
   ·rw[cX,i2 x,←cX]
theorem adm {l:List Ex} (h:l.Pairwise (fun x y=> ¬y.lx x)):jq (iG l)∧∀x,x∈iG l↔x∈l:=by
 match l,h with
 | [],_=>exact ⟨List.Pairwise.nil,fun _=>Iff.rfl⟩
 | y::l,h=>exact Rs l y h
theorem Rt (a:Ex) (ha:a.Ok) (b:Ex) (hb:b.Ok):CC oZ (bJ a (bJ b []))=some [.bool (decide (cmp a b=0))]:=by
 refine adl ?_
 unfold Rp
 refine (congrArg (fun o=>Option.bind o _) (Py a ha b hb)).trans ?_
 simp only[Option.bind_some,V.aS,V.toInt_int]
 rw[zI]
section
variable {l:List Ex} (hn:l.length≤1000000) (au: ∀k∈l,k.Ok)
include hn au
theorem adn {k:Nat}: ∀(d k2 i:Nat) (ss:List Ex),k+k2+d=l.length→1≤k2→i+1≤k+k2→ss.length=l.length→ss.take i=iG (l.take (k+k2))→ss.drop (k+k2-1)=l.drop (k+k2-1)→
  ∃t u eH,Loop (ue CC k (l.length-k)) ((i:Int),(k2:Int),ss.map enc)=some (((iG l).length:Int),u,t,List.map enc eH)∧eH.take (iG l).length=iG l∧eH.length=l.length:=by
 intro d
 induction d with
 | zero=>
  intro k2 i ss hj lP hi hl ht hd
  have e0:l.take (k+k2)=l:=List.take_of_length_le (by omega)
  rw[e0] at ht
  have gy:i=(iG l).length:=by rw[←ht,ff];omega
  refine ⟨false,(k2:Int),ss,bc ?_,by rw[←gy];exact ht,hl⟩
  simp only[ue,w5,un,bm,aA]
  rw[ai (by omega),cQ (by omega),gy]
 | succ d ih=>
  intro k2 i ss hj lP hi hl ht hd
  have hp:k+k2<l.length:=by omega
  have il:ss.drop (k+k2)=l.drop (k+k2):=by
   have h:=congrArg (List.drop 1) hd
   rw[pq,pq] at h
   rwa [show k+k2-1+1=k+k2 by omega] at h
  have g1:=zR hl il hp
  have g0:=zR hl hd (show k+k2-1<l.length by omega)
  have x1:(ss.map enc)[k+k2]? =some (l.getD (k+k2) ba).enc:=by rw[oc (by omega),g1]
  have x0:(ss.map enc)[k+(k2-1)]? =some (l.getD (k+k2-1) ba).enc:=by rw[show k+(k2-1)=k+k2-1 by omega,oc (by omega),g0]
  have w1:IntKind.wrap .i64 ((k2:Int)-1)=((k2-1:Nat):Int):=by rw[wrap64 (by omega) (by omega)];omega
  have t1:((k2:Nat):Int)<((l.length-k:Nat):Int):=by omega
  have t2:(0:Int)≤((k2:Nat):Int):=by omega
  have t3:(0:Int)≤((k2-1:Nat):Int):=by omega
  have t4:((k2-1:Nat):Int)<((l.length-k:Nat):Int):=by omega
  have t5:((i:Nat):Int)<(ss.length:Int):=by omega
  have t6:(0:Int)≤((i:Nat):Int):=by omega
  have bX: ∃y,(ss.map enc)[i]? =some y:=⟨_,oc (by omega)⟩
  obtain ⟨y,hy⟩:=bX
  have co:=Rt (l.getD (k+k2) ba) (DZ au hp) (l.getD (k+k2-1) ba) (DZ au (by omega))
  have cs:=Rr (l:=l) (p:=k+k2) (by omega) hp
  by_cases he:cmp (l.getD (k+k2) ba) (l.getD (k+k2-1) ba)=0
  ·have bL:ue CC k (l.length-k) ((i:Int),(k2:Int),ss.map enc)=some (.inl ((i:Int),((k2+1:Nat):Int),ss.map enc)):=by
    simp only[ue,w5,un,bm,aA,dg,w1,t1,t2,t3,t4,db,Int.toNat_natCast,x1,x0,Option.bind_some,bq,br,bt]
    refine (congrArg (fun o=>Option.bind o _) co).trans ?_
    simp only[Option.bind_some,V.aS,V.dU]
    rw[ef he,po,cond_false,wrap64 (by omega) (by omega)]
    rfl
   rw[bS bL]
   refine ih (k2+1) i ss (by omega) (by omega) (by omega) hl ?_ (by rw[show k+(k2+1)-1=k+k2 by omega];exact il)
   rw[show k+(k2+1)=k+k2+1 by omega,cs,aj he,dz,ht]
  ·have bL:ue CC k (l.length-k) ((i:Int),(k2:Int),ss.map enc)=some (.inl (((i+1:Nat):Int),((k2+1:Nat):Int),(ss.set i (l.getD (k+k2) ba)).map enc)):=by
    simp only[ue,w5,un,bm,aA,dg,w1,t1,t2,t3,t4,t5,t6,db,Int.toNat_natCast,x1,x0,hy,Option.bind_some,bq,br,bt]
    refine (congrArg (fun o=>Option.bind o _) co).trans ?_
    simp only[Option.bind_some,V.aS,V.dU]
    rw[cQ he,sg,cond_true,wrap64 (by omega) (by omega),wrap64 (by omega) (by omega),←et,xx]
    rfl
   rw[bS bL]
   refine ih (k2+1) (i+1) (ss.set i (l.getD (k+k2) ba)) (by omega) (by omega) (by omega) (by simpa using hl) ?_ ?_
   ·rw[kA (by rw[nk];omega),Bh (b6 i),ht,show k+(k2+1)=k+k2+1 by omega,cs,ai he]
    simp[show i<ss.length by omega]
   ·rw[show k+(k2+1)-1=k+k2 by omega,Bi (by omega),il]
theorem ado: ∀(d p:Nat),p+d=l.length→1≤p→iG (l.take p)=l.take p→
  (iG l=l∧∃t,Loop (uf CC (l.map enc)) (p:Int)=some (.inr t))∨Loop (uf CC (l.map enc)) (p:Int)=some (.inl ((iG l).map enc)):=by
 intro d
 induction d with
 | zero=>
  intro p hp h1 hc
  obtain rfl:p=l.length:=by omega
  rw[pk] at hc
  refine .inl ⟨hc,((l.length:Int),false),bc ?_⟩
  simp only[uf,w6,bm,aA]
  rw[ai (by omega),cQ (by omega)]
 | succ d ih=>
  intro p hp h1 hc
  have bK:p<l.length:=by omega
  have cs:=Rr (l:=l) h1 bK
  have co:=Rt (l.getD p ba) (DZ au bK) (l.getD (p-1) ba) (DZ au (by omega))
  have x1:(l.map enc)[p]? =some (l.getD p ba).enc:=oc bK
  have x0:(l.map enc)[p-1]? =some (l.getD (p-1) ba).enc:=oc (by omega)
  have w1:IntKind.wrap .i64 ((p:Int)-1)=((p-1:Nat):Int):=by rw[wrap64 (by omega) (by omega)];omega
  have t1:((p:Nat):Int)<(l.length:Int):=by omega
  have t2:(0:Int)≤((p:Nat):Int):=by omega
  have t3:(0:Int)≤((p-1:Nat):Int):=by omega
  have t4:((p-1:Nat):Int)<(l.length:Int):=by omega
  have t5:((p:Nat):Int)≤(l.length:Int):=by omega
  by_cases he:cmp (l.getD p ba) (l.getD (p-1) ba)=0
  ·refine .inr (bc ?_)
   obtain ⟨t,u,eH,e1,e2,e3⟩:=adn hn au (k:=p) (l.length-(p+1)) 1 p l (by omega) (by omega) (by omega) rfl (by rw[cs,aj he,dz,hc]) rfl
   have hm:(iG l).length≤eH.length:=by
    have:=congrArg List.length e2
    rw[ff] at this
    omega
   have m1:(0:Int)≤(((iG l).length:Nat):Int):=by omega
   have m2:(((iG l).length:Nat):Int)≤((eH.map enc).length:Int):=by rw[bm];omega
   simp only[uf,w6,bm,aA,dg,w1,t1,t2,t3,t4,t5,db,Int.toNat_natCast,x1,x0,Option.bind_some,bq,br,bt]
   refine (congrArg (fun o=>Option.bind o _) co).trans ?_
   simp only[Option.bind_some,V.aS,V.dU]
   rw[ef he,cond_true]
   refine (congrArg (fun o=>Option.bind o _) e1).trans ?_
   simp only[Option.bind_some,un,dg,aA,Int.toNat_natCast]
   rw[aj m1,aj m2,aj m1,aj (by simp only[b8,ff,se,sd,bm];omega),Eb _ _ _ hm,e2]
  ·have bL:uf CC (l.map enc) (p:Int)=some (.inl ((p+1:Nat):Int)):=by
    simp only[uf,w6,bm,aA,dg,w1,t1,t2,t3,t4,db,Int.toNat_natCast,x1,x0,Option.bind_some,bq,br,bt]
    refine (congrArg (fun o=>Option.bind o _) co).trans ?_
    simp only[Option.bind_some,V.aS,V.dU]
    rw[cQ he,cond_false,wrap64 (by omega) (by omega)]
    rfl
   rw[bS bL]
   exact ih (p+1) (by omega) (by omega) (by rw[cs,ai he,hc,←kA bK])
theorem adp: ∃b,CC DA [.list aa (l.map enc)]=some [.bool b,.list aa ((iG l).map enc)]:=by
 by_cases U:l.length<2
 ·refine ⟨true,JO ?_⟩
  unfold EA
  rw[bm,aA,aj (by omega)]
  match l,U with
  | [],_=>rfl
  | [k],_=>rfl
 ·rcases ado hn au (l.length-1) 1 (by omega) (by omega) (by
   match l,U with
   | k::l,_=>rfl) with ⟨h3,t,h4⟩|h4
  ·refine ⟨true,JO ?_⟩
   unfold EA
   rw[bm,aA,ai (by omega)]
   refine (congrArg (fun o=>Option.bind o _) h4).trans ?_
   rw[h3];rfl
  ·refine ⟨false,JO ?_⟩
   unfold EA
   rw[bm,aA,ai (by omega)]
   refine (congrArg (fun o=>Option.bind o _) h4).trans ?_
   rfl
theorem adq: ∃R:List Ex,CC zd [.list aa (l.map enc)]=some [.list aa (R.map enc)]∧R.Perm l∧R.Pairwise (fun x y=> ¬y.lx x):=by
 have hx: ∃L:List SX.XE,L.map SX.XE.e=l:=by
  clear hn
  induction l with
  | nil=>exact ⟨[],rfl⟩
  | cons k l ih=>
   obtain ⟨L,hL⟩:=ih fun k hk=>au k (by simp[hk])
   exact ⟨⟨k,au k (by simp)⟩::L,by rw[cG,hL]⟩
 obtain ⟨L,rfl⟩:=hx
 have he: ∀L:List SX.XE,L.map SX.XE.enc=(L.map SX.XE.e).map enc:=fun L=>by rw[List.map_map];rfl
 obtain ⟨R,e1,h1,U⟩:=SX.adg L (by rw[bm] at hn;omega)
 refine ⟨R.map SX.XE.e,?_,h1.map _,List.pairwise_map.2 U⟩
 rw[←he,←he];exact e1
theorem Ru: ∃b,CC tw [.list aa (l.map enc)]=some [.bool b,.list aa ((l.foldl ft []).map enc)]:=by
 obtain ⟨R,e1,h1,U⟩:=adq hn au
 obtain ⟨b,e2⟩:=adp (l:=R) (by rw[h1.length_eq];exact hn) fun k hk=>au k (h1.mem_iff.1 hk)
 obtain ⟨c1,c2⟩:=adm U
 have hc:iG R=l.foldl ft []:=I6 c1 D6 fun x=>by rw[c2,wo,h1.mem_iff]
 rw[hc] at e2
 refine ⟨b,adk ?_⟩
 unfold Ro
 refine (congrArg (fun o=>Option.bind o _) e1).trans ?_
 simp only[Option.bind_some,V.aS,V.ld]
 refine (congrArg (fun o=>Option.bind o _) e2).trans ?_
 cases b<;>rfl
end
end Go.AM
set_option maxRecDepth 100000
namespace Go.AM
open Go.Proofs
noncomputable def Rv (C:ag) (kids:List V):Option (List V):=
 (C HF [.list aa kids]).bind fun r1=>
 bif (V.nth r1 0).toBool then
  (C rC []).bind fun r2=>
  some [.int .i64 ((V.nth r2 0).toInt),.int .i64 ((V.nth (r2.drop 1) 0).toInt),.list aa ((V.nth (r2.drop 2) 0).toList)]
 else
  (C vV [.int .i64 4,.list aa kids]).bind fun r3=>
  (C DJ [.list aa ((V.nth r3 0).toList)]).bind fun r4=>
  bif (V.nth r4 0).toBool then
  (C tw [.list aa ((V.nth (r4.drop 1) 0).toList)]).bind fun r5=>
  bif (V.nth r5 0).toBool then
   (C oY []).bind fun r6=>
   (C lU [.int .i64 4,.list aa ((V.nth (r5.drop 1) 0).toList),.int .i64 ((V.nth r6 0).toInt),.int .i64 ((V.nth (r6.drop 1) 0).toInt),.list aa ((V.nth (r6.drop 2) 0).toList)]).bind fun r7=>
   some [.int .i64 ((V.nth r7 0).toInt),.int .i64 ((V.nth (r7.drop 1) 0).toInt),.list aa ((V.nth ((r7.drop 1).drop 1) 0).toList)]
  else
   (C oY []).bind fun r8=>
   (C lU [.int .i64 4,.list aa ((V.nth (r5.drop 1) 0).toList),.int .i64 ((V.nth r8 0).toInt),.int .i64 ((V.nth (r8.drop 1) 0).toInt),.list aa ((V.nth (r8.drop 2) 0).toList)]).bind fun r9=>
   some [.int .i64 ((V.nth r9 0).toInt),.int .i64 ((V.nth (r9.drop 1) 0).toInt),.list aa ((V.nth ((r9.drop 1).drop 1) 0).toList)]
  else
  (C tw [.list aa ((V.nth (r4.drop 1) 0).toList)]).bind fun dV=>
  bif (V.nth dV 0).toBool then
   (C oY []).bind fun eL=>
   (C lU [.int .i64 4,.list aa ((V.nth (dV.drop 1) 0).toList),.int .i64 ((V.nth eL 0).toInt),.int .i64 ((V.nth (eL.drop 1) 0).toInt),.list aa ((V.nth (eL.drop 2) 0).toList)]).bind fun fy=>
   some [.int .i64 ((V.nth fy 0).toInt),.int .i64 ((V.nth (fy.drop 1) 0).toInt),.list aa ((V.nth ((fy.drop 1).drop 1) 0).toList)]
  else
   (C oY []).bind fun gf=>
   (C lU [.int .i64 4,.list aa ((V.nth (dV.drop 1) 0).toList),.int .i64 ((V.nth gf 0).toInt),.int .i64 ((V.nth (gf.drop 1) 0).toInt),.list aa ((V.nth (gf.drop 2) 0).toList)]).bind fun kC=>
   some [.int .i64 ((V.nth kC 0).toInt),.int .i64 ((V.nth (kC.drop 1) 0).toInt),.list aa ((V.nth ((kC.drop 1).drop 1) 0).toList)]
theorem adr {kids:List V} {r:Option (List V)} (h:Rv CC kids=r):CC Dt [.list aa kids]=r:=
 a9 (key:=78) (L:=b9) (bs:=[]) (by kernel_rfl) av (aW (by kernel_rfl) h)
noncomputable def Rw (C:ag) (kids:List V):Option (List V):=
 (C rA [.list aa kids]).bind fun r1=>
 bif (V.nth r1 0).toBool then
  (C oY []).bind fun r2=>
  some [.int .i64 ((V.nth r2 0).toInt),.int .i64 ((V.nth (r2.drop 1) 0).toInt),.list aa ((V.nth (r2.drop 2) 0).toList)]
 else
  (C vV [.int .i64 5,.list aa kids]).bind fun r3=>
  (C DH [.list aa ((V.nth r3 0).toList)]).bind fun r4=>
  bif (V.nth r4 0).toBool then
  (C tv []).bind fun r5=>
  (C lU [.int .i64 5,.list aa ((V.nth (r4.drop 1) 0).toList),.int .i64 ((V.nth r5 0).toInt),.int .i64 ((V.nth (r5.drop 1) 0).toInt),.list aa ((V.nth (r5.drop 2) 0).toList)]).bind fun r6=>
  some [.int .i64 ((V.nth r6 0).toInt),.int .i64 ((V.nth (r6.drop 1) 0).toInt),.list aa ((V.nth ((r6.drop 1).drop 1) 0).toList)]
  else
  (C tv []).bind fun r7=>
  (C lU [.int .i64 5,.list aa ((V.nth (r4.drop 1) 0).toList),.int .i64 ((V.nth r7 0).toInt),.int .i64 ((V.nth (r7.drop 1) 0).toInt),.list aa ((V.nth (r7.drop 2) 0).toList)]).bind fun r8=>
  some [.int .i64 ((V.nth r8 0).toInt),.int .i64 ((V.nth (r8.drop 1) 0).toInt),.list aa ((V.nth ((r8.drop 1).drop 1) 0).toList)]
theorem ads {kids:List V} {r:Option (List V)} (h:Rw CC kids=r):CC Du [.list aa kids]=r:=
 a9 (key:=79) (L:=b9) (bs:=[]) (by kernel_rfl) av (aW (by kernel_rfl) h)
noncomputable def Rx (C:ag) (kids:List V):Option (List V):=
 (C rA [.list aa kids]).bind fun r1=>
 bif (V.nth r1 0).toBool then
  (C oY []).bind fun r2=>
  some [.int .i64 ((V.nth r2 0).toInt),.int .i64 ((V.nth (r2.drop 1) 0).toInt),.list aa ((V.nth (r2.drop 2) 0).toList)]
 else
  (C vV [.int .i64 6,.list aa kids]).bind fun r3=>
  (C vU [.list aa ((V.nth r3 0).toList)]).bind fun r4=>
  bif (V.nth r4 0).toBool then
  (C tw [.list aa ((V.nth (r4.drop 1) 0).toList)]).bind fun r5=>
  bif (V.nth r5 0).toBool then
   (C rC []).bind fun r6=>
   (C lU [.int .i64 6,.list aa ((V.nth (r5.drop 1) 0).toList),.int .i64 ((V.nth r6 0).toInt),.int .i64 ((V.nth (r6.drop 1) 0).toInt),.list aa ((V.nth (r6.drop 2) 0).toList)]).bind fun r7=>
   some [.int .i64 ((V.nth r7 0).toInt),.int .i64 ((V.nth (r7.drop 1) 0).toInt),.list aa ((V.nth ((r7.drop 1).drop 1) 0).toList)]
  else
   (C rC []).bind fun r8=>
   (C lU [.int .i64 6,.list aa ((V.nth (r5.drop 1) 0).toList),.int .i64 ((V.nth r8 0).toInt),.int .i64 ((V.nth (r8.drop 1) 0).toInt),.list aa ((V.nth (r8.drop 2) 0).toList)]).bind fun r9=>
   some [.int .i64 ((V.nth r9 0).toInt),.int .i64 ((V.nth (r9.drop 1) 0).toInt),.list aa ((V.nth ((r9.drop 1).drop 1) 0).toList)]
  else
  (C tw [.list aa ((V.nth (r4.drop 1) 0).toList)]).bind fun dV=>
  bif (V.nth dV 0).toBool then
   (C rC []).bind fun eL=>
   (C lU [.int .i64 6,.list aa ((V.nth (dV.drop 1) 0).toList),.int .i64 ((V.nth eL 0).toInt),.int .i64 ((V.nth (eL.drop 1) 0).toInt),.list aa ((V.nth (eL.drop 2) 0).toList)]).bind fun fy=>
   some [.int .i64 ((V.nth fy 0).toInt),.int .i64 ((V.nth (fy.drop 1) 0).toInt),.list aa ((V.nth ((fy.drop 1).drop 1) 0).toList)]
  else
   (C rC []).bind fun gf=>
   (C lU [.int .i64 6,.list aa ((V.nth (dV.drop 1) 0).toList),.int .i64 ((V.nth gf 0).toInt),.int .i64 ((V.nth (gf.drop 1) 0).toInt),.list aa ((V.nth (gf.drop 2) 0).toList)]).bind fun kC=>
   some [.int .i64 ((V.nth kC 0).toInt),.int .i64 ((V.nth (kC.drop 1) 0).toInt),.list aa ((V.nth ((kC.drop 1).drop 1) 0).toList)]
theorem adt {kids:List V} {r:Option (List V)} (h:Rx CC kids=r):CC Dw [.list aa kids]=r:=
 a9 (key:=80) (L:=b9) (bs:=[]) (by kernel_rfl) av (aW (by kernel_rfl) h)
noncomputable def JP (C:ag) (op:Int) (kids:List V):Option (List V):=
 bif (op:Int)==4 then
  (C Dt [.list aa kids]).bind fun r1=>
  some [.int .i64 ((V.nth r1 0).toInt),.int .i64 ((V.nth (r1.drop 1) 0).toInt),.list aa ((V.nth ((r1.drop 1).drop 1) 0).toList)]
 else
  bif (op:Int)==5 then
  (C Du [.list aa kids]).bind fun r2=>
  some [.int .i64 ((V.nth r2 0).toInt),.int .i64 ((V.nth (r2.drop 1) 0).toInt),.list aa ((V.nth ((r2.drop 1).drop 1) 0).toList)]
  else
  bif (op:Int)==6 then
   (C Dw [.list aa kids]).bind fun r3=>
   some [.int .i64 ((V.nth r3 0).toInt),.int .i64 ((V.nth (r3.drop 1) 0).toInt),.list aa ((V.nth ((r3.drop 1).drop 1) 0).toList)]
  else
   bif ((kids.length:Int):Int) != 1 then
   some [.int .i64 0,.int .i64 0,.list aa ([]:List V)]
   else
   (kids[0]?).bind fun x4=>
   bif (op:Int)==8 then
    bif (((x4.cell 0).toInt):Int)==8 then
    bif ((((x4.cell 2).toList).length:Int):Int)==1 then
     (((x4.cell 2).toList)[0]?).bind fun x5=>
     some [.int .i64 ((x5.cell 0).toInt),.int .i64 ((x5.cell 1).toInt),.list aa ((x5.cell 2).toList)]
    else
     some [.int .i64 8,.int .i64 0,.list aa ([.agg [.int .i64 ((x4.cell 0).toInt),.int .i64 ((x4.cell 1).toInt),.list aa ((x4.cell 2).toList)]]:List V)]
    else
    some [.int .i64 8,.int .i64 0,.list aa ([.agg [.int .i64 ((x4.cell 0).toInt),.int .i64 ((x4.cell 1).toInt),.list aa ((x4.cell 2).toList)]]:List V)]
   else
    bif (op:Int)==7 then
    bif (((x4.cell 0).toInt):Int)==1 then
     (C tv []).bind fun r6=>
     some [.int .i64 ((V.nth r6 0).toInt),.int .i64 ((V.nth (r6.drop 1) 0).toInt),.list aa ((V.nth (r6.drop 2) 0).toList)]
    else
     bif (((x4.cell 0).toInt):Int)==2 then
     (C tv []).bind fun r7=>
     some [.int .i64 ((V.nth r7 0).toInt),.int .i64 ((V.nth (r7.drop 1) 0).toInt),.list aa ((V.nth (r7.drop 2) 0).toList)]
     else
     bif (((x4.cell 0).toInt):Int)==7 then
      some [.int .i64 ((x4.cell 0).toInt),.int .i64 ((x4.cell 1).toInt),.list aa ((x4.cell 2).toList)]
     else
      (C lS [.int .i64 ((x4.cell 0).toInt),.int .i64 ((x4.cell 1).toInt),.list aa ((x4.cell 2).toList)]).bind fun r8=>
      bif (V.nth r8 0).toBool then
      some [.int .i64 ((x4.cell 0).toInt),.int .i64 ((x4.cell 1).toInt),.list aa ((x4.cell 2).toList)]
      else
      some [.int .i64 7,.int .i64 0,.list aa ([.agg [.int .i64 ((x4.cell 0).toInt),.int .i64 ((x4.cell 1).toInt),.list aa ((x4.cell 2).toList)]]:List V)]
    else
    some [.int .i64 0,.int .i64 0,.list aa ([]:List V)]
theorem Ry {op:Int} {kids:List V} {r:Option (List V)} (h:JP CC op kids=r):CC jP [.int .i64 op,.list aa kids]=r:=
 a9 (key:=69) (L:=b9) (bs:=[]) (by kernel_rfl) av (aW (by kernel_rfl) h)
noncomputable abbrev Rz:Code:=cJ Try.prog (ay.aY 59)
noncomputable def Au (C:ag) (t20:List V) (t21 eF eb:Int) (dt:List V) (Av Aw:Int) (bN:List V) (t22:Int) (w7:List V) {β:Type} (kn:(Int × (List V))→Option β) (kr:(Int × Bool × (List V))→Option β):Option β:=
 bif decide ((t22:Int)<t21) then
  (idx t20 t22).bind fun x1=>
  (C tu [.int .i64 ((x1.cell 0).toInt),.int .i64 ((x1.cell 1).toInt),.list aa ((x1.cell 2).toList)]).bind fun r2=>
  bif (decide (0≤t22))&&(decide (t22<(w7.length:Int))) then
  (w7[(t22:Int).toNat]?).bind fun x3=>
  kn (IntKind.wrap .i64 (t22+1),w7.set ((t22:Int).toNat) (.agg [.int .i64 ((V.nth r2 0).toInt),.int .i64 ((V.nth (r2.drop 1) 0).toInt),.list aa ((V.nth ((r2.drop 1).drop 1) 0).toList)]))
  else none
 else
  kr (t22,decide ((t22:Int)<t21),w7)
noncomputable def EB (C:ag) (t20:List V) (t21 eF eb:Int) (dt:List V) (Av Aw:Int) (bN:List V):(Int × (List V))→Option ((Int × (List V)) ⊕ (Int × Bool × (List V))):=un fun t22 w7=>Au C t20 t21 eF eb dt Av Aw bN t22 w7 (fun y=>some (.inl y)) (fun r=>some (.inr r))
noncomputable def RA (C:ag):cy:=fun β n ds k=>
 bif Nat.beq n 81 then cj HW [false,false,true,false,false,false,false,false,true,false] [[1,2,0,0,4,5,6,7,8,0,10]] (@Au C) ds k else
 none
abbrev adu (C:ag) (b:cu):Prop:=cv Try.prog ay C (RA C) 59 (cM Try.prog (ay.aY 59)) (ay.sin 59).a8.length b
theorem adv (C:ag):adu C (.loop (aw [1,1,1,0,1,0,0] Rz)):=
 cw HW [false,false,true,false,false,false,false,false,true,false] [[1,2,0,0,4,5,6,7,8,0,10]] (@Au C) (by kernel_rfl) (bf (bs:=[]) (by kernel_rfl) av) (fun ds=>by kernel_rfl) (fun i x=>by kernel_rfl) (fun i x β k=>by kernel_rfl) (fun β ds k=>by kernel_rfl)
noncomputable def RB (C:ag) (ah ar:Int) (ae:List V):Option (List V):=
 bif ((ae.length:Int):Int)==0 then
  some [.int .i64 ah,.int .i64 ar,.list aa ([]:List V)]
 else
  bif (decide (0≤(ae.length:Int)))&&((decide ((ae.length:Int)≤(ae.length:Int)))&&(Nat.ble ((((ae.length:Int):Int).toNat)*40) cB)) then
  (Loop (EB C ae (ae.length:Int) ah ar ae 0 0 ([]:List V)) (0,List.replicate (((ae.length:Int):Int).toNat) (V.agg [.int .i64 0,.int .i64 0,.list aa ([]:List V)]))).bind (un fun (lX:Int)=>un fun (o4:Bool) (adw:List V)=>
   (C jP [.int .i64 ah,.list aa adw]).bind fun r7=>
   some [.int .i64 ((V.nth r7 0).toInt),.int .i64 ((V.nth (r7.drop 1) 0).toInt),.list aa ((V.nth ((r7.drop 1).drop 1) 0).toList)])
  else none
theorem adx {ah ar:Int} {ae:List V} {r:Option (List V)} (h:RB CC ah ar ae=r):CC tu [.int .i64 ah,.int .i64 ar,.list aa ae]=r:=
 a9 (key:=59) (L:=RA CC) (bs:=[.loop (aw [1,1,1,0,1,0,0] Rz)]) (by kernel_rfl) (bG (adv CC) av) (aW (by kernel_rfl) h)
noncomputable def RC (C:ag) (ah ar:Int) (ae:List V):Option (List V):=
 (C za [.int .i64 ah,.int .i64 ar,.list aa ae]).bind fun r1=>
 bif !((V.nth r1 0).toBool) then
  some [.int .i64 0,.int .i64 0,.list aa ([]:List V)]
 else
  (C tu [.int .i64 ah,.int .i64 ar,.list aa ae]).bind fun r2=>
  some [.int .i64 ((V.nth r2 0).toInt),.int .i64 ((V.nth (r2.drop 1) 0).toInt),.list aa ((V.nth ((r2.drop 1).drop 1) 0).toList)]
theorem ady {ah ar:Int} {ae:List V} {r:Option (List V)} (h:RC CC ah ar ae=r):CC y7 [.int .i64 ah,.int .i64 ar,.list aa ae]=r:=
 a9 (key:=41) (L:=b9) (bs:=[]) (by kernel_rfl) av (aW (by kernel_rfl) h)
end Go.AM
set_option maxRecDepth 100000
namespace Go.AM
open Go.Proofs Ex
theorem ug:CC oY []=some (gZ ec):=aaw rfl
theorem EC:CC tv []=some (gZ iW):=aay rfl
theorem Ax:CC rC []=some (gZ iX):=by
 refine aaz ?_
 unfold PE
 refine bs ug ?_
 simp[gZ,ec,iX,Ex.op,Ex.cl,Ex.kids,et]
theorem RD (o:Int) (l:List Ex):(l.filter fun k=> !(decide (k.op=o)))=l.filter fun k=>decide (k.op≠o):=by
 congr 1;funext k;simp
theorem RE {ks:List Ex} (hlen:ks.length≤1000000):CC rA [.list aa (ks.map enc)]=some [.bool (ks.any fun k=>decide (k.op=1))]:=abn hlen
theorem adz {ks:List Ex} (hn:ks.length≤1000000): ∃b,CC DJ [.list aa (ks.map enc)]=some [.bool b,.list aa ((ks.filter (fun k=>decide (k.op≠1))).map enc)]:=by
 rw[←RD];exact abp hn
theorem adA {ks:List Ex} (hn:ks.length≤1000000): ∃b,CC DH [.list aa (ks.map enc)]=some [.bool b,.list aa ((ks.filter (fun k=>decide (k.op≠2))).map enc)]:=by
 rw[←RD];exact abu hn
theorem RF {o:Int} {ks:List Ex} (h: ∀k∈ks,k.Ok): ∀k∈bD o ks,k.Ok:=fun x hx=>by
 obtain ⟨k,h1,U|U⟩:=mV.1 hx
 ·have:=h k h1
  obtain ⟨o2,l2,lh⟩:=k
  exact this.lW x U.2
 ·rw[U.2];exact h k h1
theorem adB {n:Int} {ks:List Ex} (hk: ∀k∈ks,Gd n k) (hs:aK ks≤1000000):CC Du [.list aa (ks.map enc)]=some (gZ (dw 5 0 ks)):=by
 have hl:=o7 ks
 have a1:=wk 5 ks
 have a2:=o7 (bD 5 ks)
 refine ads ?_
 unfold Rw
 rw[tJ,Jg hk]
 refine bs (RE (by omega)) ?_
 cases hu:ks.any fun k=>decide (k.op=1) with
 | true=>
  refine bT rfl ?_
  refine bs ug ?_
  rfl
 | false=>
  refine bF rfl ?_
  refine bs (I4 (by omega) (by omega)) ?_
  obtain ⟨b,e⟩:=adA (ks:=bD 5 ks) (by omega)
  refine bs e ?_
  cases b
  ·exact bF rfl (bs EC (bs (o6 (z:=iW)) rfl))
  ·exact bT rfl (bs EC (bs (o6 (z:=iW)) rfl))
section
variable {n:Int} {ks:List Ex} (hk: ∀k∈ks,Gd n k) (au: ∀k∈ks,k.Ok) (hs:aK ks≤1000000)
include hk au hs
theorem adC:CC Dt [.list aa (ks.map enc)]=some (gZ (dw 4 0 ks)):=by
 have hl:=o7 ks
 have a1:=wk 4 ks
 have a2:=o7 (bD 4 ks)
 refine adr ?_
 unfold Rv
 rw[wm,PV hk]
 refine bs (abw (by omega)) ?_
 cases hu:ks.any univ with
 | true=>
  refine bT rfl ?_
  refine bs Ax ?_
  rfl
 | false=>
  refine bF rfl ?_
  refine bs (I4 (by omega) (by omega)) ?_
  obtain ⟨b,e⟩:=adz (ks:=bD 4 ks) (by omega)
  refine bs e ?_
  obtain ⟨b2,e2⟩:=Ru (l:=(bD 4 ks).filter fun k=>decide (k.op≠1)) (by have:=sh (fun k:Ex=>decide (k.op≠1)) (bD 4 ks);omega) fun k h=>RF au k (nq.1 h).1
  cases b
  ·refine bF rfl ?_
   refine bs e2 ?_
   cases b2
   ·exact bF rfl (bs ug (bs (o6 (z:=ec)) rfl))
   ·exact bT rfl (bs ug (bs (o6 (z:=ec)) rfl))
  ·refine bT rfl ?_
   refine bs e2 ?_
   cases b2
   ·exact bF rfl (bs ug (bs (o6 (z:=ec)) rfl))
   ·exact bT rfl (bs ug (bs (o6 (z:=ec)) rfl))
theorem adD:CC Dw [.list aa (ks.map enc)]=some (gZ (dw 6 0 ks)):=by
 have hl:=o7 ks
 have a1:=wk 6 ks
 have a2:=o7 (bD 6 ks)
 refine adt ?_
 unfold Rx
 rw[zK,aaS hk]
 refine bs (RE (by omega)) ?_
 cases hu:ks.any fun k=>decide (k.op=1) with
 | true=>
  refine bT rfl ?_
  refine bs ug ?_
  rfl
 | false=>
  refine bF rfl ?_
  refine bs (I4 (by omega) (by omega)) ?_
  obtain ⟨b,e⟩:=aby (ks:=bD 6 ks) (by omega)
  refine bs e ?_
  obtain ⟨b2,e2⟩:=Ru (l:=(bD 6 ks).filter fun k=> !(univ k)) (by have:=sh (fun k:Ex=> !(univ k)) (bD 6 ks);omega) fun k h=>RF au k (nq.1 h).1
  cases b
  ·refine bF rfl ?_
   refine bs e2 ?_
   cases b2
   ·exact bF rfl (bs Ax (bs (o6 (z:=iX)) rfl))
   ·exact bT rfl (bs Ax (bs (o6 (z:=iX)) rfl))
  ·refine bT rfl ?_
   refine bs e2 ?_
   cases b2
   ·exact bF rfl (bs Ax (bs (o6 (z:=iX)) rfl))
   ·exact bT rfl (bs Ax (bs (o6 (z:=iX)) rfl))
theorem qx {o:Int} (ho:o=4∨o=5∨o=6):CC jP [.int .i64 o,.list aa (ks.map enc)]=some (gZ (dw o 0 ks)):=by
 refine Ry ?_
 unfold JP
 rcases ho with rfl|rfl|rfl
 ·exact bT rfl (bs (adC hk au hs) rfl)
 ·exact bF rfl (bT rfl (bs (adB hk hs) rfl))
 ·exact bF rfl (bF rfl (bT rfl (bs (adD hk au hs) rfl)))
end
theorem JQ (k:Ex):[V.agg [.int .i64 k.op,.int .i64 k.cl,.list aa (k.kids.map enc)]]=[k].map enc:=by rw[←et];rfl
theorem ED {n o:Int} {k:Ex} (hk:Gd n k) (ho:o=7∨o=8):CC jP [.int .i64 o,.list aa ([k].map enc)]=some (gZ (dw o 0 [k])):=by
 refine Ry ?_
 unfold JP
 rcases ho with rfl|rfl
 ·refine bF rfl (bF rfl (bF rfl (bF rfl (bs (a:=k.enc) rfl (bF rfl (bT rfl ?_))))))
  rw[zL,bq,br,bt,eS,eS,eS]
  by_cases h1:k.op=1
  ·rw[aj h1,aj (.inl h1)];exact bs EC rfl
  ·rw[ai h1]
   by_cases U:k.op=2
   ·rw[aj U,aj (.inr U)];exact bs EC rfl
   ·rw[ai U,ai (show¬(k.op=1∨k.op=2) by omega)]
    by_cases h7:k.op=7
    ·rw[aj h7,aj (.inl h7)];rfl
    ·rw[ai h7]
     refine bs (zQ k) ?_
     cases hu:univ k with
     | true=>rw[aj (.inr rfl)];exact bT rfl rfl
     | false=>
      rw[ai (by rintro (h|h);exact h7 h;cases h)]
      refine bF rfl ?_
      rw[JQ];rfl
 ·refine bF rfl (bF rfl (bF rfl (bF rfl (bs (a:=k.enc) rfl (bT rfl ?_)))))
  rw[zM,bq,br,bt,eS]
  by_cases h8:k.op=8
  ·rw[aj h8,aj h8]
   have hs:=eG hk.shape
   obtain ⟨o2,l2,lh⟩:=k
   simp only[Ex.op,Ex.kids,Ex.cl] at*
   match lh,(show (lh.length:Int)=1 by omega) with
   | [x],_=>
    refine bT (by simp) (bs (a:=x.enc) rfl ?_)
    rw[bq,br,bt];rfl
  ·rw[ai h8,ai h8,JQ];rfl
theorem RG {α:Type} (a:List α) (x y:α) (b:List α) {i:Nat} (h:i=a.length):(a++x::b).set i y=(a++[y])++b:=by
 subst h;simp[List.set_append_right]
theorem adE {ks:List Ex} {a b c d:Int} {l1 l2:List V} (hn:ks.length≤1000000) (ih: ∀k∈ks,CC tu (bJ k [])=some (gZ (aL k))):
  ∀(aG pre:List Ex),ks=pre++aG→∃t,Loop (EB CC (ks.map enc) ((ks.map enc).length:Int) a b l1 c d l2) (((pre.length:Nat):Int),(pre.map aL).map enc++List.replicate aG.length (V.agg [.int .i64 0,.int .i64 0,.list aa ([]:List V)]))=some (((ks.map enc).length:Int),t,(ks.map aL).map enc):=by
 intro aG
 induction aG with
 | nil=>
  intro pre e
  rw[dz] at e
  subst e
  refine ⟨false,bc ?_⟩
  simp only[EB,Au,un,bm]
  rw[aA,ai (by omega),cQ (by omega)]
  simp
 | cons k aG eU=>
  intro pre e
  have bK:pre.length<ks.length:=by rw[e];simp
  have bX:idx (ks.map enc) (pre.length:Int)=some k.enc:=by rw[e];exact iU _ _ _
  obtain ⟨t,ht⟩:=eU (pre++[k]) (by simp[e])
  refine ⟨t,(bS ?_).trans ht⟩
  simp only[EB,Au,un,bm]
  rw[aA,aj (by omega),bX]
  simp only[Option.bind_some,bq,br,bt]
  refine bs (ih k (by rw[e];simp)) ?_
  refine bT (by simp only[aI,dM,b8,bm,se,List.length_cons];omega) ?_
  refine bs (a:=V.agg [.int .i64 0,.int .i64 0,.list aa ([]:List V)]) ?_ ?_
  ·rw[Int.toNat_natCast,gK (by simp)]
   simp
  ·rw[wrap64 (by omega) (by omega),Int.toNat_natCast,List.length_cons,List.replicate_succ,RG _ _ _ _ (by simp)]
   show some (Sum.inl _)=some (Sum.inl _)
   refine congrArg (fun x=>some (Sum.inl x)) (Prod.ext ?_ ?_)
   ·simp
   ·simp only[fP,cG,gl]
    rw[et (aL k)];rfl
theorem RH {n:Int} (hn:n≤6): ∀e:Ex,e.wf n=true→e.size≤1000000→CC tu (bJ e [])=some (gZ (aL e)):=
 ind fun o l ks ih hw hs=>by
  obtain ⟨h1,U⟩:=g9 hw
  have hl:=o7 ks
  simp only[size] at hs
  have h3:=eG h1
  refine adx ?_
  unfold RB
  simp only[Ex.op,Ex.kids,Ex.cl,bm,eS]
  rw[lZ]
  by_cases h0:ks=[]
  ·subst h0
   rw[aj (by simp),lj (by simp only[List.length_nil] at h3;omega)]
   rfl
  ·have hp:0<ks.length:=List.length_pos_iff.2 h0
   rw[ai (by omega)]
   refine bT (by simp only[aI,dM,dC,qn,Int.toNat_natCast];omega) ?_
   obtain ⟨t,ht⟩:=adE (a:=o) (b:=l) (c:=0) (d:=0) (l1:=ks.map enc) (l2:=[]) (ks:=ks) (by omega) (fun k hk=>ih k hk (U k hk) (by have:=zJ hk;omega)) ks [] rfl
   rw[bm] at ht
   refine bs ht ?_
   have hg: ∀k∈ks.map aL,Gd n k:=fun x hx=>by
    obtain ⟨k,hk,rfl⟩:=gj.1 hx
    exact l7 k (U k hk)
   have hz:aK (ks.map aL)≤aK ks:=by
    clear ht h3 h1 hw ih hp h0 hl hs hg
    induction ks with
    | nil=>simp[aK]
    | cons k ks ih=>have a:=zN k (U k (by simp));have b:=ih fun k hk=>U k (by simp[hk]);simp only[cG,aK];omega
   have au: ∀k∈ks.map aL,k.Ok:=fun k hk=>rI hn k (hg k hk).2 (by have:=zJ hk;omega)
   rcases (show (o=4∨o=5∨o=6)∨(o=7∨o=8) by omega) with ho|ho
   ·obtain rfl:l=0:=by omega
    exact bs (qx hg au (by omega) ho) rfl
   ·obtain rfl:l=0:=by omega
    have h5:ks.length=1:=by omega
    match ks,h5 with
    | [k],_=>exact bs (ED (hg (aL k) (by simp)) ho) rfl
theorem RI (e:Ex) (h:e.Ok):CC y7 (bJ e [])=some (gZ (if e.val 6=0 then aL e else ba)):=by
 refine ady ?_
 unfold RC
 refine bs (PR e h) ?_
 by_cases hv:e.val 6=0
 ·have:=n0 hv
  rw[aj hv]
  refine bF (by simp[hv]) ?_
  exact bs (RH (by omega) e this.2.2 (by omega)) rfl
 ·rw[ai hv]
  refine bT (by simp[hv]) ?_
  rfl
end Go.AM
set_option maxRecDepth 100000
namespace Go.AM
open Go.Proofs
def tab {α:Type} (n:Nat) (g:Nat→α):List α:=(List.range n).map g
section
variable {α β:Type} {n i:Nat} {g h:Nat→α}
@[simp] theorem ahC:(tab n g).length=n:=by simp[tab]
end
section
variable {γ:Type} {n i:Nat} {g:Nat→V}
theorem rS {es:List V} {v:V} (hi:es[i]? =some v) {K:V→Option γ}:(bif (decide (0≤(i:Int)))&&(decide ((i:Int)<(es.length:Int))) then (es[((i:Int)).toNat]?).bind K else none)=K v:=by
 have hl:i<es.length:=by
  rcases ou i es.length with h|h
  ·exact h
  ·rw[xo h] at hi;cases hi
 rw[Int.toNat_natCast,hi,uy.2 ⟨ef (by omega),ef (by omega)⟩]
 rfl
end
theorem cap {a b m:Nat} (h:a+b≤10000000) (hm:m≤1000):Nat.ble ((a+b)*m) cB=true:=by
 rw[dC,qn]
 have:=Nat.mul_le_mul h hm
 omega
theorem adF {n m:Nat} (h:n≤10000000) (hm:m≤1000):((decide (0≤(n:Int)))&&((decide ((n:Int)≤(n:Int)))&&(Nat.ble (((n:Int).toNat)*m) cB)))=true:=by
 have U:=Nat.mul_le_mul h hm
 rw[Int.toNat_natCast]
 refine uy.2 ⟨ef (by omega),uy.2 ⟨ef (by omega),?_⟩⟩
 rw[dC,qn]
 omega
theorem om {i:Nat} (h:i≤1000000000):IntKind.wrap .i64 ((i:Int)+1)=((i+1:Nat):Int):=by rw[wrap64 (by omega) (by omega)];omega
theorem uh {i n:Nat} (h:i<n):decide ((i:Int)<(n:Int))=true:=ef (by omega)
end Go.AM
set_option maxRecDepth 100000
namespace Go.AM
open Go.Proofs Ex
def oneOf (o:Int):List Ex→Ex
 | [k]=>k
 | l=> .node o 0 l
mutual
def bZ (c:Int):Ex→Ex
 | .node o l ks=>
  if o=3 then (if l=c then iW else ec)
  else if o=4∨o=6∨o=8 then .node o 0 (w8 c ks)
  else if o=7 then .node 5 0 [(w8 c ks).getD 0 ba,.node o l ks]
  else if o=5 then oneOf 4 (iH c ks)
  else ec
def w8 (c:Int):List Ex→List Ex
 | []=>[]
 | k::ks=>bZ c k::w8 c ks
def iH (c:Int):List Ex→List Ex
 | []=>[]
 | k::ks=>oneOf 5 (bZ c k::ks)::(if k.cY=true then iH c ks else [])
end
theorem RJ {c:Int}: ∀ks,w8 c ks=ks.map (bZ c)
 | []=>by simp only[w8,gl]
 | k::ks=>by simp only[w8,cG,RJ ks]
theorem w9 {c o l:Int} {ks:List Ex}:bZ c (.node o l ks)=if o=3 then (if l=c then iW else ec) else if o=4∨o=6∨o=8 then .node o 0 (ks.map (bZ c)) else if o=7 then .node 5 0 [(ks.map (bZ c)).getD 0 ba,.node o l ks] else if o=5 then oneOf 4 (iH c ks) else ec:=by
 rw[bZ,RJ]
theorem EE {c:Int} {k:Ex} {ks:List Ex}:iH c (k::ks)=oneOf 5 (bZ c k::ks)::(if k.cY=true then iH c ks else []):=by rw[iH]
theorem adG {o:Int} {k:Ex} {l:List Ex}:oneOf o (k::l)=if l=[] then k else .node o 0 (k::l):=by
 cases l with
 | nil=>rfl
 | cons x l=>rw[ai (by simp)];rfl
theorem RK {n:Int}:ec.wf n=true:=tI (by simp[dv]) (by simp)
theorem adH {n:Int}:iW.wf n=true:=tI (by simp[dv]) (by simp)
theorem adI {n o l len:Int} (h:dv o l len n=true) (ho:o=4∨o=6∨o=8):dv o 0 len n=true:=by
 rcases eG h with h|⟨rfl,h⟩
 ·omega
 ·assumption
theorem RL {n:Int} {o:Int} (ho:o=4∨o=5) {len:Int} (h:2≤len):dv o 0 len n=true:=by
 unfold dv
 rcases ho with rfl|rfl<;>simp[h]
theorem RM {n:Int} {o:Int} (ho:o=4∨o=5) {l:List Ex} (hl:l≠[]) (h: ∀k∈l,k.wf n=true):(oneOf o l).wf n=true:=by
 match l,hl with
 | [k],_=>exact h k (by simp)
 | k::k2::l,_=>exact tI (RL ho (by simp only[List.length_cons];omega)) h
theorem RN {c:Int} {ks:List Ex} (h:ks≠[]):iH c ks≠[]:=by
 cases ks with
 | nil=>exact absurd rfl h
 | cons k ks=>rw[EE];simp
theorem EF {n c:Int}: ∀{ks:List Ex},(∀k∈ks,k.wf n=true)→(∀k∈ks,(bZ c k).wf n=true)→∀x∈iH c ks,x.wf n=true
 | [],_,_,x,hx=>by rw[iH] at hx;cases hx
 | k::ks,h1,U,x,hx=>by
  rw[EE] at hx
  rcases cX.1 hx with rfl|hx
  ·refine RM (.inr rfl) (by simp) fun y hy=> ?_
   rcases cX.1 hy with rfl|hy
   ·exact U k (by simp)
   ·exact h1 y (by simp[hy])
  ·split at hx
   ·exact EF (fun y hy=>h1 y (by simp[hy])) (fun y hy=>U y (by simp[hy])) x hx
   ·cases hx
theorem ui {n c:Int}: ∀e:Ex,e.wf n=true→(bZ c e).wf n=true:=ind fun o l ks ih hw=>by
 obtain ⟨h1,U⟩:=g9 hw
 have hk: ∀k∈ks,(bZ c k).wf n=true:=fun k hk=>ih k hk (U k hk)
 rw[w9]
 split
 ·split
  ·exact adH
  ·exact RK
 split
 ·next _ ho=>
  refine tI (by rw[bm];exact adI h1 ho) fun x hx=> ?_
  obtain ⟨k,lP,rfl⟩:=gj.1 hx
  exact hk k lP
 split
 ·next _ _ ho=>
  subst ho
  have hl:ks.length=1:=by rcases eG h1 with h|⟨_,h|h|h|h|h|h|h⟩<;>omega
  obtain ⟨k,rfl⟩:=xy.1 hl
  refine tI (RL (.inr rfl) (by simp)) fun x hx=> ?_
  rcases cX.1 hx with rfl|hx
  ·exact hk k (by simp)
  ·rw[dW.1 hx];exact hw
 split
 ·next _ _ _ ho=>
  subst ho
  have hl:2≤ks.length:=by rcases eG h1 with h|⟨_,h|h|h|h|h|h|h⟩<;>omega
  exact RM (.inl rfl) (RN (by intro h;rw[h] at hl;simp at hl)) (EF U hk)
 ·exact RK
theorem RO {o:Int} {l:List Ex}:(oneOf o l).size≤1+aK l:=by
 match l with
 | []=>simp[oneOf,size,aK]
 | [k]=>simp[oneOf,aK]
 | k::k2::l=>simp[oneOf,size]
theorem JR {f:Ex→Ex}: ∀{ks:List Ex},(∀k∈ks,(f k).size≤k.size*k.size)→aK (ks.map f)≤aK ks*aK ks
 | [],_=>by simp[aK]
 | k::ks,h=>by
  have ih:=JR (f:=f) (ks:=ks) fun x hx=>h x (by simp[hx])
  have hk:=h k (by simp)
  simp only[cG,aK,cZ,Nat.mul_add]
  omega
theorem JS {c:Int}: ∀{ks:List Ex},(∀k∈ks,(bZ c k).size≤k.size*k.size)→1+aK (iH c ks)≤(1+aK ks)*(1+aK ks)
 | [],_=>by rw[iH];simp[aK]
 | k::ks,h=>by
  have ih:=JS (c:=c) (ks:=ks) fun x hx=>h x (by simp[hx])
  have hk:=h k (by simp)
  have h1:(oneOf 5 (bZ c k::ks)).size≤1+((bZ c k).size+aK ks):=RO
  have hp:=k.size_pos
  have U:aK (if k.cY=true then iH c ks else [])≤aK (iH c ks):=by
   split
   ·exact b6 _
   ·simp[aK]
  have h3:1*aK ks≤k.size*aK ks:=di _ hp
  have h4:aK ks*k.size=k.size*aK ks:=nn _ _
  rw[EE]
  simp only[aK,cZ,Nat.mul_add] at*
  omega
theorem RP {c:Int}: ∀e:Ex,(∀n,e.wf n=true→(bZ c e).size≤e.size*e.size):=ind fun o l ks ih n hw=>by
 obtain ⟨h1,U⟩:=g9 hw
 have hk: ∀k∈ks,(bZ c k).size≤k.size*k.size:=fun k hk=>ih k hk n (U k hk)
 have h3:1*1≤(Ex.node o l ks).size*(Ex.node o l ks).size:=Nat.mul_le_mul (size_pos _) (size_pos _)
 rw[w9]
 split
 ·split
  ·exact h3
  ·exact h3
 split
 ·have:=JR hk
  simp only[size,cZ,Nat.mul_add] at*
  omega
 split
 ·next _ _ ho=>
  subst ho
  have hl:ks.length=1:=by rcases eG h1 with h|⟨_,h|h|h|h|h|h|h⟩<;>omega
  obtain ⟨k,rfl⟩:=xy.1 hl
  have:=hk k (by simp)
  have hp:=k.size_pos
  simp only[cG,gl,xw,size,aK,cZ,Nat.mul_add,Nat.add_zero] at*
  omega
 split
 ·have h4:=JS hk
  have h5:(oneOf 4 (iH c ks)).size≤1+aK (iH c ks):=RO
  show _≤(1+aK ks)*(1+aK ks)
  omega
 ·exact h3
section
variable {n c:Int}
theorem adJ {o l:Int} {ks:List Ex} (ho:o=4∨o=6∨o=8):aL (bZ c (.node o l ks))=dw o 0 (ks.map fun k=>aL (bZ c k)):=by
 rw[w9,ai (by omega),aj ho,lZ,List.map_map]
 rfl
theorem adK {l:Int} {k:Ex}:aL (bZ c (.node 7 l [k]))=dw 5 0 [aL (bZ c k),aL (.node 7 l [k])]:=by
 rw[w9,ai (by omega),ai (by omega),aj rfl,lZ]
 rfl
def EG (c:Int) (k:Ex) (ks:List Ex):Ex:=if (aL (bZ c k)).op=1 then aL (bZ c k) else dw 5 0 (aL (bZ c k)::ks.map aL)
theorem adL {k:Ex} {ks:List Ex} (hk:k.wf n=true) (aV: ∀x∈ks,x.wf n=true):EG c k ks=aL (oneOf 5 (bZ c k::ks)):=by
 have hg:=l7 (n:=n) _ (ui (c:=c) k hk)
 unfold EG
 rw[adG]
 by_cases hn:ks=[]
 ·subst hn
  rw[aj rfl,gl,aa4 hg]
  split<;>rfl
 ·rw[ai hn,lZ,cG]
  by_cases h1:(aL (bZ c k)).op=1
  ·rw[aj h1,tJ,aj,empty_eq hg h1]
   have sY: ∀x∈aL (bZ c k)::ks.map aL,Gd n x:=fun x hx=>by
    rcases cX.1 hx with rfl|hx
    ·exact hg
    ·obtain ⟨y,hy,rfl⟩:=gj.1 hx
     exact l7 y (aV y hy)
   rw[Jg sY]
   simp[h1]
  ·rw[ai h1]
def rT (c:Int):List Ex→List Ex
 | []=>[]
 | k::ks=>EG c k ks::(if k.cY=true then rT c ks else [])
theorem parts_eq: ∀{ks:List Ex},(∀x∈ks,x.wf n=true)→rT c ks=(iH c ks).map aL
 | [],_=>by rw[iH];rfl
 | k::ks,h=>by
  have ih:=parts_eq (ks:=ks) fun x hx=>h x (by simp[hx])
  rw[EE,cG,←adL (h k (by simp)) (fun x hx=>h x (by simp[hx]))]
  unfold rT
  refine congrArg _ ?_
  split
  ·exact ih
  ·rfl
theorem adM {l:Int} {ks:List Ex} (bw:ks≠[]) (hk: ∀x∈ks,x.wf n=true):aL (bZ c (.node 5 l ks))=dw 4 0 (rT c ks):=by
 rw[w9,ai (by omega),ai (by omega),ai (by omega),aj rfl,parts_eq hk]
 have hw:=EF (c:=c) hk fun k lP=>ui k (hk k lP)
 have hn:=RN (c:=c) bw
 generalize iH c ks=L at*
 match L,hn with
 | [x],_=>exact (aa3 (l7 x (hw x (by simp)))).symm
 | x::y::L,_=>
  show aL (.node 4 0 _)=_
  rw[lZ]
end
end Go.AM
set_option maxRecDepth 100000
namespace Go.AM
open Go.Proofs
noncomputable def RQ (C:ag) (dK:Int) (dL:Bool) (ah ar:Int) (ae:List V):Option (List V):=
 bif dL then
  some [.int .i64 ah,.int .i64 ar,.list aa ae]
 else
  (C tu [.int .i64 ah,.int .i64 ar,.list aa ae]).bind fun r1=>
  some [.int .i64 ((V.nth r1 0).toInt),.int .i64 ((V.nth (r1.drop 1) 0).toInt),.list aa ((V.nth ((r1.drop 1).drop 1) 0).toList)]
theorem adN {dK:Int} {dL:Bool} {ah ar:Int} {ae:List V} {r:Option (List V)} (h:RQ CC dK dL ah ar ae=r):CC zb [.int .i64 dK,.bool dL,.int .i64 ah,.int .i64 ar,.list aa ae]=r:=
 a9 (key:=83) (L:=b9) (bs:=[]) (by kernel_rfl) av (aW (by kernel_rfl) h)
noncomputable abbrev RR:Code:=cJ Try.prog (ay.aY 68)
noncomputable def Ay (C:ag) (t21:List V) (t22 oo:Int) (oq:Bool) (eF eb:Int) (dt:List V) (kD kE qy qz:Int) (qA:Bool) (fB jW:List V) (Az t23:Int) (lp fe:List V) {β:Type} (kn:(Int × Int × (List V) × (List V))→Option β) (kr:(Int × Int × Bool × (List V) × (List V))→Option β):Option β:=
 bif decide ((t23:Int)<t22) then
  (idx t21 t23).bind fun x1=>
  (C nV [.int .i64 oo,.bool oq,.int .i64 ((x1.cell 0).toInt),.int .i64 ((x1.cell 1).toInt),.list aa ((x1.cell 2).toList)]).bind fun r2=>
  bif (decide (0≤t23))&&(decide (t23<(lp.length:Int))) then
  (lp[(t23:Int).toNat]?).bind fun x3=>
  bif (decide (0≤t23))&&(decide (t23<(fe.length:Int))) then
   (fe[(t23:Int).toNat]?).bind fun x4=>
   bif (V.nth ((((((r2.drop 1).drop 1).drop 1).drop 1).drop 1).drop 1) 0).toBool then
   kn (IntKind.wrap .i64 (Az+1),IntKind.wrap .i64 (t23+1),lp.set ((t23:Int).toNat) (.agg [.int .i64 ((V.nth r2 0).toInt),.int .i64 ((V.nth (r2.drop 1) 0).toInt),.list aa ((V.nth ((r2.drop 1).drop 1) 0).toList)]),fe.set ((t23:Int).toNat) (.agg [.int .i64 ((V.nth (((r2.drop 1).drop 1).drop 1) 0).toInt),.int .i64 ((V.nth ((((r2.drop 1).drop 1).drop 1).drop 1) 0).toInt),.list aa ((V.nth (((((r2.drop 1).drop 1).drop 1).drop 1).drop 1) 0).toList)]))
   else
   kn (Az,IntKind.wrap .i64 (t23+1),lp.set ((t23:Int).toNat) (.agg [.int .i64 ((V.nth r2 0).toInt),.int .i64 ((V.nth (r2.drop 1) 0).toInt),.list aa ((V.nth ((r2.drop 1).drop 1) 0).toList)]),fe.set ((t23:Int).toNat) (.agg [.int .i64 ((V.nth (((r2.drop 1).drop 1).drop 1) 0).toInt),.int .i64 ((V.nth ((((r2.drop 1).drop 1).drop 1).drop 1) 0).toInt),.list aa ((V.nth (((((r2.drop 1).drop 1).drop 1).drop 1).drop 1) 0).toList)]))
  else none
  else none
 else
  kr (Az,t23,decide ((t23:Int)<t22),lp,fe)
noncomputable def EH (C:ag) (t21:List V) (t22 oo:Int) (oq:Bool) (eF eb:Int) (dt:List V) (kD kE qy qz:Int) (qA:Bool) (fB jW:List V):(Int × Int × (List V) × (List V))→Option ((Int × Int × (List V) × (List V)) ⊕ (Int × Int × Bool × (List V) × (List V))):=un fun Az=>un fun t23=>un fun lp fe=>Ay C t21 t22 oo oq eF eb dt kD kE qy qz qA fB jW Az t23 lp fe (fun y=>some (.inl y)) (fun r=>some (.inr r))
noncomputable def RS (C:ag):cy:=fun β n ds k=>
 bif Nat.beq n 65 then cj HY [true,false,false,true,false,false,false,false,false,false,false,false,false,false,true,true,false,false] [[0,2,3,0,0,5,6,7,8,9,10,11,12,13,14,0,0,17,18]] (@Ay C) ds k else
 none
abbrev adO (C:ag) (b:cu):Prop:=cv Try.prog ay C (RS C) 68 (cM Try.prog (ay.aY 68)) (ay.sin 68).a8.length b
theorem adP (C:ag):adO C (.loop (aw [1,1,1,0,1,0,0] RR)):=
 cw HY [true,false,false,true,false,false,false,false,false,false,false,false,false,false,true,true,false,false] [[0,2,3,0,0,5,6,7,8,9,10,11,12,13,14,0,0,17,18]] (@Ay C) (by kernel_rfl) (bf (bs:=[]) (by kernel_rfl) av) (fun ds=>by kernel_rfl) (fun i x=>by kernel_rfl) (fun i x β k=>by kernel_rfl) (fun β ds k=>by kernel_rfl)
noncomputable def RT (C:ag) (dK:Int) (dL:Bool) (ah ar:Int) (ae:List V):Option (List V):=
 bif (decide (0≤(ae.length:Int)))&&((decide ((ae.length:Int)≤(ae.length:Int)))&&(Nat.ble ((((ae.length:Int):Int).toNat)*40) cB)) then
  bif (decide (0≤(ae.length:Int)))&&((decide ((ae.length:Int)≤(ae.length:Int)))&&(Nat.ble ((((ae.length:Int):Int).toNat)*40) cB)) then
  (Loop (EH C ae (ae.length:Int) dK dL ah ar ae 0 0 0 0 false ([]:List V) ([]:List V)) (0,0,List.replicate (((ae.length:Int):Int).toNat) (V.agg [.int .i64 0,.int .i64 0,.list aa ([]:List V)]),List.replicate (((ae.length:Int):Int).toNat) (V.agg [.int .i64 0,.int .i64 0,.list aa ([]:List V)]))).bind (un fun (JT:Int)=>un fun (lg:Int)=>un fun (o5:Bool)=>un fun (adQ:List V) (adR:List V)=>
   (C jP [.int .i64 ah,.list aa adQ]).bind fun dV=>
   (C jP [.int .i64 ah,.list aa adR]).bind fun eL=>
   bif (ah:Int)==4 then
    some [.int .i64 ((V.nth dV 0).toInt),.int .i64 ((V.nth (dV.drop 1) 0).toInt),.list aa ((V.nth ((dV.drop 1).drop 1) 0).toList),.int .i64 ((V.nth eL 0).toInt),.int .i64 ((V.nth (eL.drop 1) 0).toInt),.list aa ((V.nth ((eL.drop 1).drop 1) 0).toList),.bool (decide ((JT:Int)>0))]
   else
    bif (ah:Int)==6 then
    some [.int .i64 ((V.nth dV 0).toInt),.int .i64 ((V.nth (dV.drop 1) 0).toInt),.list aa ((V.nth ((dV.drop 1).drop 1) 0).toList),.int .i64 ((V.nth eL 0).toInt),.int .i64 ((V.nth (eL.drop 1) 0).toInt),.list aa ((V.nth ((eL.drop 1).drop 1) 0).toList),.bool ((JT:Int)==(ae.length:Int))]
    else
    bif (ah:Int)==8 then
     some [.int .i64 ((V.nth dV 0).toInt),.int .i64 ((V.nth (dV.drop 1) 0).toInt),.list aa ((V.nth ((dV.drop 1).drop 1) 0).toList),.int .i64 ((V.nth eL 0).toInt),.int .i64 ((V.nth (eL.drop 1) 0).toInt),.list aa ((V.nth ((eL.drop 1).drop 1) 0).toList),.bool ((JT:Int)==0)]
    else
     some [.int .i64 ((V.nth dV 0).toInt),.int .i64 ((V.nth (dV.drop 1) 0).toInt),.list aa ((V.nth ((dV.drop 1).drop 1) 0).toList),.int .i64 ((V.nth eL 0).toInt),.int .i64 ((V.nth (eL.drop 1) 0).toInt),.list aa ((V.nth ((eL.drop 1).drop 1) 0).toList),.bool false])
  else none
 else none
theorem adS {dK:Int} {dL:Bool} {ah ar:Int} {ae:List V} {r:Option (List V)} (h:RT CC dK dL ah ar ae=r):CC vQ [.int .i64 dK,.bool dL,.int .i64 ah,.int .i64 ar,.list aa ae]=r:=
 a9 (key:=68) (L:=RS CC) (bs:=[.loop (aw [1,1,1,0,1,0,0] RR)]) (by kernel_rfl) (bG (adP CC) av) (aW (by kernel_rfl) h)
noncomputable abbrev EI:Code:=cJ Try.prog (ay.aY 70)
noncomputable def xb (C:ag) (t20:List V) (t21 oo:Int) (oq:Bool) (kD kE qy qz:Int) (qA:Bool) (pe fB:List V) (rU:Bool) (t22:Int) (lp fe:List V) {β:Type} (kn:(Bool × Int × (List V) × (List V))→Option β) (kr:(Bool × Int × Bool × (List V) × (List V))→Option β):Option β:=
 bif decide ((t22:Int)<t21) then
  (idx t20 t22).bind fun x1=>
  bif !rU then
  (C zb [.int .i64 oo,.bool oq,.int .i64 ((x1.cell 0).toInt),.int .i64 ((x1.cell 1).toInt),.list aa ((x1.cell 2).toList)]).bind fun r2=>
  bif (decide (0≤t22))&&(decide (t22<(fe.length:Int))) then
   (fe[(t22:Int).toNat]?).bind fun x3=>
   kn (rU,IntKind.wrap .i64 (t22+1),lp,fe.set ((t22:Int).toNat) (.agg [.int .i64 ((V.nth r2 0).toInt),.int .i64 ((V.nth (r2.drop 1) 0).toInt),.list aa ((V.nth ((r2.drop 1).drop 1) 0).toList)]))
  else none
  else
  (C nV [.int .i64 oo,.bool oq,.int .i64 ((x1.cell 0).toInt),.int .i64 ((x1.cell 1).toInt),.list aa ((x1.cell 2).toList)]).bind fun r4=>
  bif Nat.ble ((lp.length+([.agg [.int .i64 ((V.nth r4 0).toInt),.int .i64 ((V.nth (r4.drop 1) 0).toInt),.list aa ((V.nth ((r4.drop 1).drop 1) 0).toList)]]:List V).length)*40) cB then
   bif (decide (0≤t22))&&(decide (t22<(fe.length:Int))) then
   (fe[(t22:Int).toNat]?).bind fun x5=>
   kn ((V.nth ((((((r4.drop 1).drop 1).drop 1).drop 1).drop 1).drop 1) 0).toBool,IntKind.wrap .i64 (t22+1),lp++([.agg [.int .i64 ((V.nth r4 0).toInt),.int .i64 ((V.nth (r4.drop 1) 0).toInt),.list aa ((V.nth ((r4.drop 1).drop 1) 0).toList)]]:List V),fe.set ((t22:Int).toNat) (.agg [.int .i64 ((V.nth (((r4.drop 1).drop 1).drop 1) 0).toInt),.int .i64 ((V.nth ((((r4.drop 1).drop 1).drop 1).drop 1) 0).toInt),.list aa ((V.nth (((((r4.drop 1).drop 1).drop 1).drop 1).drop 1) 0).toList)]))
   else none
  else none
 else
  kr (rU,t22,decide ((t22:Int)<t21),lp,fe)
noncomputable def AA (C:ag) (t20:List V) (t21 oo:Int) (oq:Bool) (kD kE qy qz:Int) (qA:Bool) (pe fB:List V):(Bool × Int × (List V) × (List V))→Option ((Bool × Int × (List V) × (List V)) ⊕ (Bool × Int × Bool × (List V) × (List V))):=un fun rU=>un fun t22=>un fun lp fe=>xb C t20 t21 oo oq kD kE qy qz qA pe fB rU t22 lp fe (fun y=>some (.inl y)) (fun r=>some (.inr r))
noncomputable def AB (C:ag) (rU:Bool) (t55 kD kE qy qz:Int) (qA:Bool) (fe EJ pe fB:List V) (t56:Int) (ga:List V) {β:Type} (kn:(Int × (List V))→Option β) (kr:(Int × Bool × (List V))→Option β):Option β:=
 bif decide ((t56:Int)<t55) then
  bif (decide (0≤t56))&&(decide (t56<(EJ.length:Int))) then
  (EJ[(t56:Int).toNat]?).bind fun eI=>
  bif (((eI.cell 0).toInt):Int)==1 then
   bif (decide (0≤t56))&&(decide (t56<(ga.length:Int))) then
   (ga[(t56:Int).toNat]?).bind fun EK=>
   kn (IntKind.wrap .i64 (t56+1),ga.set ((t56:Int).toNat) (.agg [.int .i64 ((eI.cell 0).toInt),.int .i64 ((eI.cell 1).toInt),.list aa ((eI.cell 2).toList)]))
   else none
  else
   bif (decide (0≤(IntKind.wrap .i64 (t56+1))))&&(decide ((IntKind.wrap .i64 (t56+1))≤(fe.length:Int))) then
   bif Nat.ble ((([.agg [.int .i64 ((eI.cell 0).toInt),.int .i64 ((eI.cell 1).toInt),.list aa ((eI.cell 2).toList)]]:List V).length+((fe.drop ((IntKind.wrap .i64 (t56+1):Int).toNat)).take (fe.length-((IntKind.wrap .i64 (t56+1):Int).toNat))).length)*40) cB then
    (C jP [.int .i64 5,.list aa (([.agg [.int .i64 ((eI.cell 0).toInt),.int .i64 ((eI.cell 1).toInt),.list aa ((eI.cell 2).toList)]]:List V)++((fe.drop ((IntKind.wrap .i64 (t56+1):Int).toNat)).take (fe.length-((IntKind.wrap .i64 (t56+1):Int).toNat))))]).bind fun gf=>
    bif (decide (0≤t56))&&(decide (t56<(ga.length:Int))) then
    (ga[(t56:Int).toNat]?).bind fun m7=>
    kn (IntKind.wrap .i64 (t56+1),ga.set ((t56:Int).toNat) (.agg [.int .i64 ((V.nth gf 0).toInt),.int .i64 ((V.nth (gf.drop 1) 0).toInt),.list aa ((V.nth ((gf.drop 1).drop 1) 0).toList)]))
    else none
   else none
   else none
  else none
 else
  kr (t56,decide ((t56:Int)<t55),ga)
noncomputable def EL (C:ag) (rU:Bool) (t55 kD kE qy qz:Int) (qA:Bool) (fe EJ pe fB:List V):(Int × (List V))→Option ((Int × (List V)) ⊕ (Int × Bool × (List V))):=un fun t56 ga=>AB C rU t55 kD kE qy qz qA fe EJ pe fB t56 ga (fun y=>some (.inl y)) (fun r=>some (.inr r))
noncomputable def RU (C:ag):cy:=fun β n ds k=>
 bif Nat.beq n 81 then cj HZ [true,false,false,true,false,false,false,false,false,false,false,true,true,false,false] [[0,2,3,0,0,5,6,7,8,9,10,11,0,0,14,15]] (@xb C) ds k else
 bif Nat.beq n 225 then cj H0 [false,false,true,false,false,false,false,false,false,true,false,false,false] [[1,2,0,0,4,5,6,7,8,9,0,11,12,13]] (@AB C) ds k else
 none
abbrev RV (C:ag) (b:cu):Prop:=cv Try.prog ay C (RU C) 70 (cM Try.prog (ay.aY 70)) (ay.sin 70).a8.length b
theorem adT (C:ag):RV C (.loop (aw [1,1,1,1,0,1,0,0] EI)):=
 cw HZ [true,false,false,true,false,false,false,false,false,false,false,true,true,false,false] [[0,2,3,0,0,5,6,7,8,9,10,11,0,0,14,15]] (@xb C) (by kernel_rfl) (bf (bs:=[]) (by kernel_rfl) av) (fun ds=>by kernel_rfl) (fun i x=>by kernel_rfl) (fun i x β k=>by kernel_rfl) (fun β ds k=>by kernel_rfl)
theorem adU (C:ag):RV C (.loop (aw [1,1,1,1,1,1,0,1,0,0] EI)):=
 cw H0 [false,false,true,false,false,false,false,false,false,true,false,false,false] [[1,2,0,0,4,5,6,7,8,9,0,11,12,13]] (@AB C) (by kernel_rfl) (bf (bs:=[]) (by kernel_rfl) av) (fun ds=>by kernel_rfl) (fun i x=>by kernel_rfl) (fun i x β k=>by kernel_rfl) (fun β ds k=>by kernel_rfl)
noncomputable def RW (C:ag) (dK:Int) (dL:Bool) (ah ar:Int) (ae:List V):Option (List V):=
 bif (decide (0≤(ae.length:Int)))&&((decide ((ae.length:Int)≤(ae.length:Int)))&&(Nat.ble ((((ae.length:Int):Int).toNat)*40) cB)) then
  (Loop (AA C ae (ae.length:Int) dK dL 0 0 0 0 false ([]:List V) ([]:List V)) (true,0,([]:List V),List.replicate (((ae.length:Int):Int).toNat) (V.agg [.int .i64 0,.int .i64 0,.list aa ([]:List V)]))).bind (un fun (RX:Bool)=>un fun (o5:Int)=>un fun (OX:Bool)=>un fun (uj:List V) (RY:List V)=>
   bif (decide (0≤(uj.length:Int)))&&((decide ((uj.length:Int)≤(uj.length:Int)))&&(Nat.ble ((((uj.length:Int):Int).toNat)*40) cB)) then
   (Loop (EL C RX (uj.length:Int) 0 0 0 0 false RY uj ([]:List V) ([]:List V)) (0,List.replicate (((uj.length:Int):Int).toNat) (V.agg [.int .i64 0,.int .i64 0,.list aa ([]:List V)]))).bind (un fun (zA:Int)=>un fun (OZ:Bool) (adV:List V)=>
    (C jP [.int .i64 4,.list aa adV]).bind fun iF=>
    (C jP [.int .i64 5,.list aa RY]).bind fun er=>
    some [.int .i64 ((V.nth iF 0).toInt),.int .i64 ((V.nth (iF.drop 1) 0).toInt),.list aa ((V.nth ((iF.drop 1).drop 1) 0).toList),.int .i64 ((V.nth er 0).toInt),.int .i64 ((V.nth (er.drop 1) 0).toInt),.list aa ((V.nth ((er.drop 1).drop 1) 0).toList),.bool RX])
   else none)
 else none
theorem adW {dK:Int} {dL:Bool} {ah ar:Int} {ae:List V} {r:Option (List V)} (h:RW CC dK dL ah ar ae=r):CC vR [.int .i64 dK,.bool dL,.int .i64 ah,.int .i64 ar,.list aa ae]=r:=
 a9 (key:=70) (L:=RU CC) (bs:=[.loop (aw [1,1,1,1,0,1,0,0] EI),.loop (aw [1,1,1,1,1,1,0,1,0,0] EI)]) (by kernel_rfl) (bG (adT CC) (bG (adU CC) av)) (aW (by kernel_rfl) h)
end Go.AM
