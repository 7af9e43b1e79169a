/-
  Functions of the program, lifted to plain data.
-/
import Derived.Test.YtppefogdkedaiaaP4
set_option linter.unusedVariables false
set_option linter.unusedSimpArgs false
set_option maxRecDepth 100000
namespace Go.AM
open Go.Proofs
noncomputable abbrev QM:Code:=cP Try.prog (az.aZ 115)
noncomputable def wL (C:ag) (i j:Int) (aj:List V) {β:Type} (kn:(Int × Int × (List V))→Option β) (kr:(Int × Int × Bool × (List V))→Option β):Option β:=
 bif decide ((i:Int)<j) then
  bif (decide (0≤j))&&(decide (j<(aj.length:Int))) then
  (aj[(j:Int).toNat]?).bind fun x1=>
  bif (decide (0≤i))&&(decide (i<(aj.length:Int))) then
   (aj[(i:Int).toNat]?).bind fun x2=>
   bif (decide (0≤i))&&(decide (i<(aj.length:Int))) then
   (aj[(i:Int).toNat]?).bind fun x3=>
   bif (decide (0≤j))&&(decide (j<((aj.set ((i:Int).toNat) (.agg [.int .i64 ((x1.cell 0).toInt),.int .i64 ((x1.cell 1).toInt),.list aa ((x1.cell 2).toList)])).length:Int))) then
    ((aj.set ((i:Int).toNat) (.agg [.int .i64 ((x1.cell 0).toInt),.int .i64 ((x1.cell 1).toInt),.list aa ((x1.cell 2).toList)]))[(j:Int).toNat]?).bind fun x4=>
    kn (IntKind.wrap .i64 (i+1),IntKind.wrap .i64 (j-1),(aj.set ((i:Int).toNat) (.agg [.int .i64 ((x1.cell 0).toInt),.int .i64 ((x1.cell 1).toInt),.list aa ((x1.cell 2).toList)])).set ((j:Int).toNat) (.agg [.int .i64 ((x2.cell 0).toInt),.int .i64 ((x2.cell 1).toInt),.list aa ((x2.cell 2).toList)]))
   else none
   else none
  else none
  else none
 else
  kr (i,j,decide ((i:Int)<j),aj)
noncomputable def zX (C:ag):(Int × Int × (List V))→Option ((Int × Int × (List V)) ⊕ (Int × Int × Bool × (List V))):=un fun i=>un fun j aj=>wL C i j aj (fun y=>some (.inl y)) (fun r=>some (.inr r))
noncomputable def QN (C:ag):cC:=fun β n ds k=>
 bif Nat.beq n 33 then ch IK [true,true,true] [[0,0,0,0]] (@wL C) ds k else
 none
abbrev abZ (C:ag) (b:cx):Prop:=cy Try.prog az C (QN C) 115 (cT Try.prog (az.aZ 115)) (az.sin 115).aY.length b
theorem ab0 (C:ag):abZ C (.loop (av [1,1,0,0] QM)):=
 ct IK [true,true,true] [[0,0,0,0]] (@wL C) (by kernel_rfl) (bf (bs:=[]) (by kernel_rfl) aw) (fun ds=>by kernel_rfl) (fun i x=>by kernel_rfl) (fun i x β k=>by kernel_rfl) (fun β ds k=>by kernel_rfl)
noncomputable def QO (C:ag) (a b':Int) (aj:List V):Option (List V):=
 (Loop (zX C) (a,IntKind.wrap .i64 (b'-1),aj)).bind (un fun (cF:Int)=>un fun (JB:Int)=>un fun (od:Bool) (ab1:List V)=>
  some [.list aa ab1])
theorem ab2 {a b':Int} {aj:List V} {r:Option (List V)} (h:QO CC a b' aj=r):CC DF [.int .i64 a,.int .i64 b',.list aa aj]=r:=
 ba (key:=115) (L:=QN CC) (bs:=[.loop (av [1,1,0,0] QM)]) (by kernel_rfl) (bG (ab0 CC) aw) (a8 (by kernel_rfl) h)
end Go.AM
set_option maxRecDepth 100000
set_option maxHeartbeats 4000000
namespace Go.AM.SX
open Go.Proofs Go.Sort
def ax (a b:XE):Bool:=decide (bI a b<0)
theorem rT (a b:XE):(ax a b=true)=(bI a b<0):=by unfold ax;rw[dJ]
theorem qB (a b:XE):((!ax a b)=true)= ¬(bI a b<0):=by unfold ax;simp
abbrev eA (d:Array XE):List V:=pb XE.enc d
theorem ab3 (a j:Nat) (d:Array XE):insInner ax a (j+1) d=if j+1>a then (if bI d[j+1]! d[j]! <0 then insInner ax a j (swp d (j+1) j) else d) else d:=by
 rw[QC]
 by_cases h1:j+1>a
 ·rw[ak h1];simp only[h1,qN,mn,rT]
 ·rw[ai h1,ai (by simp[h1])]
theorem JJ (hi first root:Nat) (d:Array XE):siftDown ax hi first root d=
  if 2*root+1≥hi then d else
   if 2*root+2<hi then
    (if bI d[first+(2*root+1)]! d[first+(2*root+2)]! <0 then
     (if bI d[first+root]! d[first+(2*root+2)]! <0 then siftDown ax hi first (2*root+2) (swp d (first+root) (first+(2*root+2))) else d)
    else (if bI d[first+root]! d[first+(2*root+1)]! <0 then siftDown ax hi first (2*root+1) (swp d (first+root) (first+(2*root+1))) else d))
   else (if bI d[first+root]! d[first+(2*root+1)]! <0 then siftDown ax hi first (2*root+1) (swp d (first+root) (first+(2*root+1))) else d):=by
 rw[siftDown]
 by_cases h1:2*root+1≥hi
 ·rw[qL h1,ak h1]
 rw[dif_neg h1,ai h1]
 by_cases U:2*root+2<hi
 ·rw[ak U]
  by_cases h3:bI d[first+(2*root+1)]! d[first+(2*root+2)]! <0
  ·rw[ak h3,ak (by simp only[aI,dJ,rT];exact ⟨U,h3⟩)]
   simp only[qB]
   by_cases h4:bI d[first+root]! d[first+(2*root+2)]! <0
   ·rw[ai (pA h4),qL U,ak h4]
   ·rw[ak h4,ai h4]
  ·rw[ai h3,ai (by simp only[aI,dJ,rT];exact fun h=>h3 h.2)]
   simp only[qB]
   by_cases h4:bI d[first+root]! d[first+(2*root+1)]! <0
   ·rw[ai (pA h4),ak h4]
   ·rw[ak h4,ai h4]
 ·rw[ai U,ai (by simp only[aI,dJ,rT];exact fun h=>U h.1)]
  simp only[qB]
  by_cases h4:bI d[first+root]! d[first+(2*root+1)]! <0
  ·rw[ai (pA h4),ak h4]
  ·rw[ak h4,ai h4]
theorem QP {a b i:Nat}: ∀(j:Nat) (d:Array XE),j<d.size→d.size<1152921504606846976→
  ∃j' t,Loop (wI CC a b i) ((j:Int),eA d)=some (j',t,eA (insInner ax a j d))
 | 0,d,hj,hs=>⟨(0:Nat),false,bc (by
   simp (disch:=omega) only[wI,wH,un,aA,ai]
   rfl)⟩
 | j+1,d,hj,hs=>by
  obtain ⟨j',t,ih⟩:=QP (a:=a) (b:=b) (i:=i) j (swp d (j+1) j) (by rw[size_swp];omega) (by rw[size_swp];omega)
  rw[ab3]
  by_cases h1:j+1>a
  ·rw[ak h1]
   have e:wI CC a b i (((j+1:Nat):Int),eA d)=if bI d[j+1]! d[j]! <0 then some (.inl ((j:Int),eA (swp d (j+1) j))) else some (.inr (((j+1:Nat):Int),decide (bI d[j+1]! d[j]! <0),eA d)):=by
    simp (disch:=omega) only[wI,wH,un,aA,df,gB,ak,ai,wrap64,dw,fx,Int.toNat_natCast,Option.bind_some,fu,fw,XE.bw,XE.bx,XE.bz,XE.re,fv,gY,gm,gd,V.aV,V.toInt_int,cond_true,cond_false,tY]
    rfl
   by_cases U:bI d[j+1]! d[j]! <0
   ·rw[ak U] at e⊢
    exact ⟨j',t,(bV e).trans ih⟩
   ·rw[ai U] at e⊢
    exact ⟨_,_,bc e⟩
  ·rw[ai h1]
   exact ⟨((j+1:Nat):Int),false,bc (by
    simp (disch:=omega) only[wI,wH,un,aA,ai])⟩
theorem ab4 {a b:Nat}: ∀(n i:Nat) (d:Array XE),b-i=n→b≤d.size→d.size<1152921504606846976→
  ∃j' t,Loop (Ef CC a b) ((i:Int),eA d)=some (j',t,eA (insOuter ax a b i d)):=by
 intro n
 induction n with
 | zero=>
  intro i d hn hb hs
  rw[insOuter,ai (by omega)]
  exact ⟨(i:Int),false,bc (by
   simp (disch:=omega) only[Ef,zU,un,rR,cond_false])⟩
 | succ n ih=>
  intro i d hn hb hs
  obtain ⟨j1,t1,h1⟩:=QP (a:=a) (b:=b) (i:=i) i d (by omega) hs
  obtain ⟨j',t,U⟩:=ih (i+1) (insInner ax a i d) (by omega) (by rw[JG];omega) (by rw[JG];omega)
  rw[insOuter,ak (by omega)]
  refine ⟨j',t,(bV ?_).trans U⟩
  simp (disch:=omega) only[Ef,zU,un,aA,ak,h1,Option.bind_some,dw,wrap64]
theorem QQ {a b:Nat} {d:Array XE} (hb:b≤d.size) (hs:d.size<1152921504606846976) (ha:a<1152921504606846976):
  CC zk [.int .i64 (a:Int),.int .i64 (b:Int),.list aa (eA d)]=some [.list aa (eA (insertionSort ax d a b))]:=by
 refine abP ?_
 unfold QF
 obtain ⟨j',t,h⟩:=ab4 (a:=a) (b:=b) _ (a+1) d rfl hb hs
 simp (disch:=omega) only[dw,wrap64]
 rw[h]
 rfl
theorem ab5 (hi first:Nat): ∀(n root:Nat) (d:Array XE),hi-root≤n→root<1152921504606846976→first+hi≤d.size→d.size<1152921504606846976→
  (∃x y z,Loop (oj CC hi first) ((root:Int),eA d)=some (.inl (x,y,z,eA (siftDown ax hi first root d))))∨
  (∃x y z,Loop (oj CC hi first) ((root:Int),eA d)=some (.inr (x,y,z,eA (siftDown ax hi first root d)))):=by
 intro n
 induction n with
 | zero=>
  intro root d hn hr hb hs
  rw[JJ,ak (by omega)]
  exact .inl ⟨(root:Int),((root*2+1:Nat):Int),true,bc (by
   simp (disch:=omega) only[oj,rS,un,zS,dw,wrap64];rw[mX (by omega)];rfl)⟩
 | succ n ih=>
  intro root d hn hr hb hs
  by_cases h1:2*root+1≥hi
  ·rw[JJ,ak h1]
   exact .inl ⟨(root:Int),((root*2+1:Nat):Int),true,bc (by
    simp (disch:=omega) only[oj,rS,un,zS,dw,wrap64];rw[mX (by omega)];rfl)⟩
  ·have go: ∀c:Nat,c<hi→root<c→(oj CC hi first ((root:Int),eA d)=
      if bI d[first+root]! d[first+c]! <0 then some (.inl ((c:Int),eA (swp d (first+root) (first+c)))) else some (.inr (.inr ((root:Int),(c:Int),true,eA d))))→
     siftDown ax hi first root d=(if bI d[first+root]! d[first+c]! <0 then siftDown ax hi first c (swp d (first+root) (first+c)) else d)→
     ((∃x y z,Loop (oj CC hi first) ((root:Int),eA d)=some (.inl (x,y,z,eA (siftDown ax hi first root d))))∨
     (∃x y z,Loop (oj CC hi first) ((root:Int),eA d)=some (.inr (x,y,z,eA (siftDown ax hi first root d))))):=by
    intro c hc hrc e1 e2
    rw[e2]
    by_cases h3:bI d[first+root]! d[first+c]! <0
    ·rw[ak h3] at e1
     rw[ak h3,bV e1]
     exact ih c _ (by omega) (by omega) (by rw[size_swp];omega) (by rw[size_swp];omega)
    ·rw[ai h3] at e1
     rw[ai h3,bc e1]
     exact .inr ⟨_,_,_,rfl⟩
   have e0:=JJ hi first root d
   rw[ai h1] at e0
   by_cases U:2*root+2<hi
   ·rw[ak U] at e0
    by_cases h3:bI d[first+(2*root+1)]! d[first+(2*root+2)]! <0
    ·rw[ak h3] at e0
     refine go (2*root+2) (by omega) (by omega) ?_ e0
     rw[nt 2 root] at h3
     simp (disch:=omega) only[oj,rS,un,zS,dw,fx,wrap64]
     rw[aA,ai (by omega),aA,ak (by omega)]
     simp (disch:=omega) only[tZ,aA,df,gB,ak,ai,wrap64,dw,fx,Int.toNat_natCast,Option.bind_some,fu,fw,XE.bw,XE.bx,XE.bz,XE.re,fv,gY,gm,gd,V.aV,V.toInt_int,cond_true,cond_false,nt 2 root,mX]
     by_cases h4:bI d[first+root]! d[first+(root*2+2)]! <0
     ·simp only[h4,dj];rfl
     ·simp only[h4,gk];rfl
    ·rw[ai h3] at e0
     refine go (2*root+1) (by omega) (by omega) ?_ e0
     rw[nt 2 root] at h3
     simp (disch:=omega) only[oj,rS,un,zS,dw,fx,wrap64]
     rw[aA,ai (by omega),aA,ak (by omega)]
     simp (disch:=omega) only[tZ,aA,df,gB,ak,ai,wrap64,dw,fx,Int.toNat_natCast,Option.bind_some,fu,fw,XE.bw,XE.bx,XE.bz,XE.re,fv,gY,gm,gd,V.aV,V.toInt_int,cond_true,cond_false,nt 2 root,rR]
     by_cases h4:bI d[first+root]! d[first+(root*2+1)]! <0
     ·simp only[h4,dj];rfl
     ·simp only[h4,gk];rfl
   ·rw[ai U] at e0
    refine go (2*root+1) (by omega) (by omega) ?_ e0
    simp (disch:=omega) only[oj,rS,un,zS,dw,fx,wrap64]
    rw[aA,ai (by omega),aA,ai (by omega)]
    simp (disch:=omega) only[tZ,aA,df,gB,ak,ai,wrap64,dw,fx,Int.toNat_natCast,Option.bind_some,fu,fw,XE.bw,XE.bx,XE.bz,XE.re,fv,gY,gm,gd,V.aV,V.toInt_int,cond_true,cond_false,nt 2 root]
    by_cases h4:bI d[first+root]! d[first+(root*2+1)]! <0
    ·simp only[h4,dj];rfl
    ·simp only[h4,gk];rfl
theorem QR {lo hi first:Nat} {d:Array XE} (hl:lo<1152921504606846976) (hb:first+hi≤d.size) (hs:d.size<1152921504606846976):
  CC zn [.int .i64 (lo:Int),.int .i64 (hi:Int),.int .i64 (first:Int),.list aa (eA d)]=some [.list aa (eA (siftDown ax hi first lo d))]:=by
 refine abT ?_
 unfold QI
 rcases ab5 hi first _ lo d (bX _) hl hb hs with ⟨x,y,z,h⟩|⟨x,y,z,h⟩
 ·rw[h];rfl
 ·rw[h];rfl
theorem QS {hi first:Nat}: ∀(k:Nat) (d:Array XE),k<1152921504606846976→first+hi≤d.size→d.size<1152921504606846976→
  ∃x y,Loop (Eh CC first 0 hi) ((k:Int)-1,eA d)=some (x,y,eA (heapBuild ax hi first k d))
 | 0,d,hk,hb,hs=>⟨-1,false,bc (by
   simp (disch:=omega) only[Eh,zV,un,aA,ai]
   rfl)⟩
 | k+1,d,hk,hb,hs=>by
  obtain ⟨x,y,ih⟩:=QS (hi:=hi) (first:=first) k (siftDown ax hi first k d) (by omega) (by rw[zT _ _ _ _ _ (bX _)];omega) (by rw[zT _ _ _ _ _ (bX _)];omega)
  refine ⟨x,y,(bV ?_).trans ih⟩
  simp (disch:=omega) only[Eh,zV,un,aA,ak,tY,QR,Option.bind_some,V.aV,V.lb,wrap64]
theorem QT {first:Nat}: ∀(k:Nat) (d:Array XE),k<1152921504606846976→first+k≤d.size→d.size<1152921504606846976→
  ∃x y,Loop (Ei CC first 0) ((k:Int)-1,eA d)=some (x,y,eA (heapPop ax first k d))
 | 0,d,hk,hb,hs=>⟨-1,false,bc (by
   simp (disch:=omega) only[Ei,zW,un,aA,ai]
   rfl)⟩
 | k+1,d,hk,hb,hs=>by
  obtain ⟨x,y,ih⟩:=QT (first:=first) k (siftDown ax k first 0 (swp d first (first+k))) (by omega) (by rw[zT _ _ _ _ _ (bX _),size_swp];omega) (by rw[zT _ _ _ _ _ (bX _),size_swp];omega)
  refine ⟨x,y,(bV ?_).trans ih⟩
  have gy:=QR (lo:=0) (hi:=k) (first:=first) (d:=swp d first (first+k)) (by omega) (by rw[size_swp];omega) (by rw[size_swp];omega)
  unfold swp at gy⊢
  rw[show ((0:Nat):Int)=0 from rfl] at gy
  simp (disch:=omega) only[Ei,zW,un,tY,aA,df,gB,ak,ai,wrap64,dw,fx,Int.toNat_natCast,Option.bind_some,fu,fw,XE.bw,XE.bx,XE.bz,XE.re,fv,gY,gm,gd,V.aV,V.toInt_int,cond_true,cond_false]
  rw[gy]
  simp (disch:=omega) only[Option.bind_some,V.aV,V.lb,wrap64]
theorem ab6 {a b:Nat} {d:Array XE} (eM:a<b) (hb:b≤d.size) (hs:d.size<1152921504606846976):
  CC zl [.int .i64 (a:Int),.int .i64 (b:Int),.list aa (eA d)]=some [.list aa (eA (heapSort ax d a b))]:=by
 refine abY ?_
 unfold QL
 obtain ⟨x,y,h1⟩:=QS (hi:=b-a) (first:=a) ((b-a-1)/2+1) d (by omega) (by omega) hs
 obtain ⟨x2,y2,U⟩:=QT (first:=a) (b-a) (heapBuild ax (b-a) a ((b-a-1)/2+1) d) (by omega) (by rw[JH];omega) (by rw[JH];omega)
 have e1:((((b-a-1)/2+1:Nat):Int)-1)=Int.tdiv (((b-a:Nat):Int)-1) 2:=by
  rw[Int.tdiv_eq_ediv_of_nonneg (by omega)]
  omega
 rw[e1] at h1
 simp (disch:=omega) only[lZ,wrap64]
 rw[h1]
 simp only[Option.bind_some,un]
 rw[U]
 rfl
theorem ab7: ∀(n i j:Nat) (d:Array XE),j-i≤n→j<d.size→d.size<1152921504606846976→
  ∃x y z,Loop (zX CC) ((i:Int),(j:Int),eA d)=some (x,y,z,eA (reverseLoop i j d)):=by
 intro n
 induction n with
 | zero=>
  intro i j d hn hj hs
  rw[reverseLoop,ai (by omega)]
  exact ⟨(i:Int),(j:Int),false,bc (by
   simp (disch:=omega) only[zX,wL,un,rR,cond_false])⟩
 | succ n ih=>
  intro i j d hn hj hs
  rw[reverseLoop]
  by_cases h:i<j
  ·rw[ak h]
   obtain ⟨x,y,z,U⟩:=ih (i+1) (j-1) (swp d i j) (by omega) (by rw[size_swp];omega) (by rw[size_swp];omega)
   refine ⟨x,y,z,(bV ?_).trans U⟩
   simp (disch:=omega) only[zX,wL,un,aA,df,gB,ak,ai,wrap64,dw,fx,Int.toNat_natCast,Option.bind_some,fu,fw,XE.bw,XE.bx,XE.bz,XE.re,fv,gY,gm,gd,V.aV,V.toInt_int,cond_true,cond_false,jU]
   rfl
  ·rw[ai h]
   exact ⟨(i:Int),(j:Int),false,bc (by
    simp (disch:=omega) only[zX,wL,un,rR,cond_false])⟩
theorem ab8 {a b:Nat} {d:Array XE} (eM:a<b) (hb:b≤d.size) (hs:d.size<1152921504606846976):
  CC DF [.int .i64 (a:Int),.int .i64 (b:Int),.list aa (eA d)]=some [.list aa (eA (reverseRange d a b))]:=by
 refine ab2 ?_
 unfold QO
 obtain ⟨x,y,z,h⟩:=ab7 _ a (b-1) d (bX _) (by omega) hs
 simp (disch:=omega) only[jU,wrap64]
 rw[h]
 rfl
end Go.AM.SX
set_option maxRecDepth 100000
namespace Go.AM
open Go.Proofs
noncomputable abbrev pd:Code:=cP Try.prog (az.aZ 118)
noncomputable def zY (C:ag) (a j:Int) (aj:List V) (i:Int) {β:Type} (kn:Int→Option β) (kr:(Int × Bool)→Option β):Option β:=
 bif decide ((i:Int)≤j) then
  bif (decide (0≤i))&&(decide (i<(aj.length:Int))) then
  (aj[(i:Int).toNat]?).bind fun x5=>
  bif (decide (0≤a))&&(decide (a<(aj.length:Int))) then
   (aj[(a:Int).toNat]?).bind fun x6=>
   (C aX [.int .i64 ((x5.cell 0).toInt),.int .i64 ((x5.cell 1).toInt),.list aa ((x5.cell 2).toList),.int .i64 ((x6.cell 0).toInt),.int .i64 ((x6.cell 1).toInt),.list aa ((x6.cell 2).toList)]).bind fun r7=>
   bif decide ((((V.nth r7 0).toInt):Int)<0) then
   kn (IntKind.wrap .i64 (i+1))
   else
   kr (i,decide ((((V.nth r7 0).toInt):Int)<0))
  else none
  else none
 else
  kr (i,false)
noncomputable def zZ (C:ag) (a j:Int) (aj:List V):(Int)→Option ((Int) ⊕ (Int × Bool)):=fun i=>zY C a j aj i (fun y=>some (.inl y)) (fun r=>some (.inr r))
noncomputable def wM (C:ag) (a i:Int) (aj:List V) (j:Int) {β:Type} (kn:Int→Option β) (kr:(Int × Bool)→Option β):Option β:=
 bif decide ((i:Int)≤j) then
  bif (decide (0≤j))&&(decide (j<(aj.length:Int))) then
  (aj[(j:Int).toNat]?).bind fun mZ=>
  bif (decide (0≤a))&&(decide (a<(aj.length:Int))) then
   (aj[(a:Int).toNat]?).bind fun eG=>
   (C aX [.int .i64 ((mZ.cell 0).toInt),.int .i64 ((mZ.cell 1).toInt),.list aa ((mZ.cell 2).toList),.int .i64 ((eG.cell 0).toInt),.int .i64 ((eG.cell 1).toInt),.list aa ((eG.cell 2).toList)]).bind fun fy=>
   bif !(decide ((((V.nth fy 0).toInt):Int)<0)) then
   kn (IntKind.wrap .i64 (j-1))
   else
   kr (j,!(decide ((((V.nth fy 0).toInt):Int)<0)))
  else none
  else none
 else
  kr (j,false)
noncomputable def wO (C:ag) (a i:Int) (aj:List V):(Int)→Option ((Int) ⊕ (Int × Bool)):=fun j=>wM C a i aj j (fun y=>some (.inl y)) (fun r=>some (.inr r))
noncomputable def z0 (C:ag) (a j:Int) (aj:List V) (i:Int) {β:Type} (kn:Int→Option β) (kr:(Int × Bool)→Option β):Option β:=
 bif decide ((i:Int)≤j) then
  bif (decide (0≤i))&&(decide (i<(aj.length:Int))) then
  (aj[(i:Int).toNat]?).bind fun jo=>
  bif (decide (0≤a))&&(decide (a<(aj.length:Int))) then
   (aj[(a:Int).toNat]?).bind fun ua=>
   (C aX [.int .i64 ((jo.cell 0).toInt),.int .i64 ((jo.cell 1).toInt),.list aa ((jo.cell 2).toList),.int .i64 ((ua.cell 0).toInt),.int .i64 ((ua.cell 1).toInt),.list aa ((ua.cell 2).toList)]).bind fun QU=>
   bif decide ((((V.nth QU 0).toInt):Int)<0) then
   kn (IntKind.wrap .i64 (i+1))
   else
   kr (i,decide ((((V.nth QU 0).toInt):Int)<0))
  else none
  else none
 else
  kr (i,false)
noncomputable def z5 (C:ag) (a j:Int) (aj:List V):(Int)→Option ((Int) ⊕ (Int × Bool)):=fun i=>z0 C a j aj i (fun y=>some (.inl y)) (fun r=>some (.inr r))
noncomputable def wP (C:ag) (a i:Int) (aj:List V) (j:Int) {β:Type} (kn:Int→Option β) (kr:(Int × Bool)→Option β):Option β:=
 bif decide ((i:Int)≤j) then
  bif (decide (0≤j))&&(decide (j<(aj.length:Int))) then
  (aj[(j:Int).toNat]?).bind fun ub=>
  bif (decide (0≤a))&&(decide (a<(aj.length:Int))) then
   (aj[(a:Int).toNat]?).bind fun uc=>
   (C aX [.int .i64 ((ub.cell 0).toInt),.int .i64 ((ub.cell 1).toInt),.list aa ((ub.cell 2).toList),.int .i64 ((uc.cell 0).toInt),.int .i64 ((uc.cell 1).toInt),.list aa ((uc.cell 2).toList)]).bind fun Ej=>
   bif !(decide ((((V.nth Ej 0).toInt):Int)<0)) then
   kn (IntKind.wrap .i64 (j-1))
   else
   kr (j,!(decide ((((V.nth Ej 0).toInt):Int)<0)))
  else none
  else none
 else
  kr (j,false)
noncomputable def wQ (C:ag) (a i:Int) (aj:List V):(Int)→Option ((Int) ⊕ (Int × Bool)):=fun j=>wP C a i aj j (fun y=>some (.inl y)) (fun r=>some (.inr r))
noncomputable def z6 (C:ag) (a i j:Int) (aj:List V) {β:Type} (kn:(Int × Int × (List V))→Option β) (kr:(Int × Int × Bool × (List V))→Option β):Option β:=
 (Loop (z5 C a j aj) i).bind (un fun (lk:Int) (Pj:Bool)=>
  (Loop (wQ C a lk aj) j).bind (un fun (om:Int) (YK:Bool)=>
   bif decide ((lk:Int)>om) then
    kr (lk,om,decide ((lk:Int)>om),aj)
   else
    bif (decide (0≤om))&&(decide (om<(aj.length:Int))) then
    (aj[(om:Int).toNat]?).bind fun qC=>
    bif (decide (0≤lk))&&(decide (lk<(aj.length:Int))) then
     (aj[(lk:Int).toNat]?).bind fun JK=>
     bif (decide (0≤lk))&&(decide (lk<(aj.length:Int))) then
     (aj[(lk:Int).toNat]?).bind fun x35=>
     bif (decide (0≤om))&&(decide (om<((aj.set ((lk:Int).toNat) (.agg [.int .i64 ((qC.cell 0).toInt),.int .i64 ((qC.cell 1).toInt),.list aa ((qC.cell 2).toList)])).length:Int))) then
      ((aj.set ((lk:Int).toNat) (.agg [.int .i64 ((qC.cell 0).toInt),.int .i64 ((qC.cell 1).toInt),.list aa ((qC.cell 2).toList)]))[(om:Int).toNat]?).bind fun x36=>
      kn (IntKind.wrap .i64 (lk+1),IntKind.wrap .i64 (om-1),(aj.set ((lk:Int).toNat) (.agg [.int .i64 ((qC.cell 0).toInt),.int .i64 ((qC.cell 1).toInt),.list aa ((qC.cell 2).toList)])).set ((om:Int).toNat) (.agg [.int .i64 ((JK.cell 0).toInt),.int .i64 ((JK.cell 1).toInt),.list aa ((JK.cell 2).toList)]))
     else none
     else none
    else none
    else none))
noncomputable def wR (C:ag) (a:Int):(Int × Int × (List V))→Option ((Int × Int × (List V)) ⊕ (Int × Int × Bool × (List V))):=un fun i=>un fun j aj=>z6 C a i j aj (fun y=>some (.inl y)) (fun r=>some (.inr r))
noncomputable def QV (C:ag):cC:=fun β n ds k=>
 bif Nat.beq n 49 then ch IV [false,true,false,false] [[1,0,3,0,4]] (@zY C) ds k else
 bif Nat.beq n 81 then ch IW [false,false,true,false] [[1,2,0,0,4]] (@wM C) ds k else
 bif Nat.beq n 209 then ch IX [false,true,false,false] [[1,0,3,0,4]] (@z0 C) ds k else
 bif Nat.beq n 241 then ch IY [false,false,true,false] [[1,2,0,0,4]] (@wP C) ds k else
 bif Nat.beq n 210 then ch IZ [false,true,true,true] [[1,0,0,0,0]] (@z6 C) ds k else
 none
abbrev z7 (C:ag) (b:cx):Prop:=cy Try.prog az C (QV C) 118 (cT Try.prog (az.aZ 118)) (az.sin 118).aY.length b
theorem ab9 (C:ag):z7 C (.loop (av [1,1,1,0,0,0] pd)):=
 ct IV [false,true,false,false] [[1,0,3,0,4]] (@zY C) (by kernel_rfl) (bf (bs:=[]) (by kernel_rfl) aw) (fun ds=>by kernel_rfl) (fun i x=>by kernel_rfl) (fun i x β k=>by kernel_rfl) (fun β ds k=>by kernel_rfl)
theorem aca (C:ag):z7 C (.loop (av [1,1,1,1,0,0,0] pd)):=
 ct IW [false,false,true,false] [[1,2,0,0,4]] (@wM C) (by kernel_rfl) (bf (bs:=[]) (by kernel_rfl) aw) (fun ds=>by kernel_rfl) (fun i x=>by kernel_rfl) (fun i x β k=>by kernel_rfl) (fun β ds k=>by kernel_rfl)
theorem acb (C:ag):z7 C (.loop (av [1,1,1,1,1,1,1,1,1,0,0,0,0,0,0,0] pd)):=
 ct IX [false,true,false,false] [[1,0,3,0,4]] (@z0 C) (by kernel_rfl) (bf (bs:=[]) (by kernel_rfl) aw) (fun ds=>by kernel_rfl) (fun i x=>by kernel_rfl) (fun i x β k=>by kernel_rfl) (fun β ds k=>by kernel_rfl)
theorem acd (C:ag):z7 C (.loop (av [1,1,1,1,1,1,1,1,1,0,0,0,0,1,0,0,0] pd)):=
 ct IY [false,false,true,false] [[1,2,0,0,4]] (@wP C) (by kernel_rfl) (bf (bs:=[]) (by kernel_rfl) aw) (fun ds=>by kernel_rfl) (fun i x=>by kernel_rfl) (fun i x β k=>by kernel_rfl) (fun β ds k=>by kernel_rfl)
theorem ace (C:ag):z7 C (.loop (av [1,1,1,1,1,1,1,1,1,0,0,0] pd)):=
 ct IZ [false,true,true,true] [[1,0,0,0,0]] (@z6 C) (by kernel_rfl) (bf (bs:=[.loop (av [1,1,1,1,1,1,1,1,1,0,0,0,0,0,0,0] pd),.loop (av [1,1,1,1,1,1,1,1,1,0,0,0,0,1,0,0,0] pd)]) (by kernel_rfl) (bG (acb C) (bG (acd C) aw))) (fun ds=>by kernel_rfl) (fun i x=>by kernel_rfl) (fun i x β k=>by kernel_rfl) (fun β ds k=>by kernel_rfl)
noncomputable def QW (C:ag) (a b' pivot:Int) (aj:List V):Option (List V):=
 bif (decide (0≤pivot))&&(decide (pivot<(aj.length:Int))) then
  (aj[(pivot:Int).toNat]?).bind fun x1=>
  bif (decide (0≤a))&&(decide (a<(aj.length:Int))) then
  (aj[(a:Int).toNat]?).bind fun x2=>
  bif (decide (0≤a))&&(decide (a<(aj.length:Int))) then
   (aj[(a:Int).toNat]?).bind fun x3=>
   bif (decide (0≤pivot))&&(decide (pivot<((aj.set ((a:Int).toNat) (.agg [.int .i64 ((x1.cell 0).toInt),.int .i64 ((x1.cell 1).toInt),.list aa ((x1.cell 2).toList)])).length:Int))) then
   ((aj.set ((a:Int).toNat) (.agg [.int .i64 ((x1.cell 0).toInt),.int .i64 ((x1.cell 1).toInt),.list aa ((x1.cell 2).toList)]))[(pivot:Int).toNat]?).bind fun x4=>
   (Loop (zZ C a (IntKind.wrap .i64 (b'-1)) ((aj.set ((a:Int).toNat) (.agg [.int .i64 ((x1.cell 0).toInt),.int .i64 ((x1.cell 1).toInt),.list aa ((x1.cell 2).toList)])).set ((pivot:Int).toNat) (.agg [.int .i64 ((x2.cell 0).toInt),.int .i64 ((x2.cell 1).toInt),.list aa ((x2.cell 2).toList)]))) (IntKind.wrap .i64 (a+1))).bind (un fun (eH:Int) (rL:Bool)=>
    (Loop (wO C a eH ((aj.set ((a:Int).toNat) (.agg [.int .i64 ((x1.cell 0).toInt),.int .i64 ((x1.cell 1).toInt),.list aa ((x1.cell 2).toList)])).set ((pivot:Int).toNat) (.agg [.int .i64 ((x2.cell 0).toInt),.int .i64 ((x2.cell 1).toInt),.list aa ((x2.cell 2).toList)]))) (IntKind.wrap .i64 (b'-1))).bind (un fun (dY:Int) (zA:Bool)=>
     bif decide ((eH:Int)>dY) then
      bif (decide (0≤a))&&(decide (a<(((aj.set ((a:Int).toNat) (.agg [.int .i64 ((x1.cell 0).toInt),.int .i64 ((x1.cell 1).toInt),.list aa ((x1.cell 2).toList)])).set ((pivot:Int).toNat) (.agg [.int .i64 ((x2.cell 0).toInt),.int .i64 ((x2.cell 1).toInt),.list aa ((x2.cell 2).toList)])).length:Int))) then
      (((aj.set ((a:Int).toNat) (.agg [.int .i64 ((x1.cell 0).toInt),.int .i64 ((x1.cell 1).toInt),.list aa ((x1.cell 2).toList)])).set ((pivot:Int).toNat) (.agg [.int .i64 ((x2.cell 0).toInt),.int .i64 ((x2.cell 1).toInt),.list aa ((x2.cell 2).toList)]))[(a:Int).toNat]?).bind fun fA=>
      bif (decide (0≤dY))&&(decide (dY<(((aj.set ((a:Int).toNat) (.agg [.int .i64 ((x1.cell 0).toInt),.int .i64 ((x1.cell 1).toInt),.list aa ((x1.cell 2).toList)])).set ((pivot:Int).toNat) (.agg [.int .i64 ((x2.cell 0).toInt),.int .i64 ((x2.cell 1).toInt),.list aa ((x2.cell 2).toList)])).length:Int))) then
       (((aj.set ((a:Int).toNat) (.agg [.int .i64 ((x1.cell 0).toInt),.int .i64 ((x1.cell 1).toInt),.list aa ((x1.cell 2).toList)])).set ((pivot:Int).toNat) (.agg [.int .i64 ((x2.cell 0).toInt),.int .i64 ((x2.cell 1).toInt),.list aa ((x2.cell 2).toList)]))[(dY:Int).toNat]?).bind fun gf=>
       bif (decide (0≤dY))&&(decide (dY<(((aj.set ((a:Int).toNat) (.agg [.int .i64 ((x1.cell 0).toInt),.int .i64 ((x1.cell 1).toInt),.list aa ((x1.cell 2).toList)])).set ((pivot:Int).toNat) (.agg [.int .i64 ((x2.cell 0).toInt),.int .i64 ((x2.cell 1).toInt),.list aa ((x2.cell 2).toList)])).length:Int))) then
       (((aj.set ((a:Int).toNat) (.agg [.int .i64 ((x1.cell 0).toInt),.int .i64 ((x1.cell 1).toInt),.list aa ((x1.cell 2).toList)])).set ((pivot:Int).toNat) (.agg [.int .i64 ((x2.cell 0).toInt),.int .i64 ((x2.cell 1).toInt),.list aa ((x2.cell 2).toList)]))[(dY:Int).toNat]?).bind fun qz=>
       bif (decide (0≤a))&&(decide (a<((((aj.set ((a:Int).toNat) (.agg [.int .i64 ((x1.cell 0).toInt),.int .i64 ((x1.cell 1).toInt),.list aa ((x1.cell 2).toList)])).set ((pivot:Int).toNat) (.agg [.int .i64 ((x2.cell 0).toInt),.int .i64 ((x2.cell 1).toInt),.list aa ((x2.cell 2).toList)])).set ((dY:Int).toNat) (.agg [.int .i64 ((fA.cell 0).toInt),.int .i64 ((fA.cell 1).toInt),.list aa ((fA.cell 2).toList)])).length:Int))) then
        ((((aj.set ((a:Int).toNat) (.agg [.int .i64 ((x1.cell 0).toInt),.int .i64 ((x1.cell 1).toInt),.list aa ((x1.cell 2).toList)])).set ((pivot:Int).toNat) (.agg [.int .i64 ((x2.cell 0).toInt),.int .i64 ((x2.cell 1).toInt),.list aa ((x2.cell 2).toList)])).set ((dY:Int).toNat) (.agg [.int .i64 ((fA.cell 0).toInt),.int .i64 ((fA.cell 1).toInt),.list aa ((fA.cell 2).toList)]))[(a:Int).toNat]?).bind fun wK=>
        some [.int .i64 dY,.bool true,.list aa ((((aj.set ((a:Int).toNat) (.agg [.int .i64 ((x1.cell 0).toInt),.int .i64 ((x1.cell 1).toInt),.list aa ((x1.cell 2).toList)])).set ((pivot:Int).toNat) (.agg [.int .i64 ((x2.cell 0).toInt),.int .i64 ((x2.cell 1).toInt),.list aa ((x2.cell 2).toList)])).set ((dY:Int).toNat) (.agg [.int .i64 ((fA.cell 0).toInt),.int .i64 ((fA.cell 1).toInt),.list aa ((fA.cell 2).toList)])).set ((a:Int).toNat) (.agg [.int .i64 ((gf.cell 0).toInt),.int .i64 ((gf.cell 1).toInt),.list aa ((gf.cell 2).toList)]))]
       else none
       else none
      else none
      else none
     else
      bif (decide (0≤dY))&&(decide (dY<(((aj.set ((a:Int).toNat) (.agg [.int .i64 ((x1.cell 0).toInt),.int .i64 ((x1.cell 1).toInt),.list aa ((x1.cell 2).toList)])).set ((pivot:Int).toNat) (.agg [.int .i64 ((x2.cell 0).toInt),.int .i64 ((x2.cell 1).toInt),.list aa ((x2.cell 2).toList)])).length:Int))) then
      (((aj.set ((a:Int).toNat) (.agg [.int .i64 ((x1.cell 0).toInt),.int .i64 ((x1.cell 1).toInt),.list aa ((x1.cell 2).toList)])).set ((pivot:Int).toNat) (.agg [.int .i64 ((x2.cell 0).toInt),.int .i64 ((x2.cell 1).toInt),.list aa ((x2.cell 2).toList)]))[(dY:Int).toNat]?).bind fun pc=>
      bif (decide (0≤eH))&&(decide (eH<(((aj.set ((a:Int).toNat) (.agg [.int .i64 ((x1.cell 0).toInt),.int .i64 ((x1.cell 1).toInt),.list aa ((x1.cell 2).toList)])).set ((pivot:Int).toNat) (.agg [.int .i64 ((x2.cell 0).toInt),.int .i64 ((x2.cell 1).toInt),.list aa ((x2.cell 2).toList)])).length:Int))) then
       (((aj.set ((a:Int).toNat) (.agg [.int .i64 ((x1.cell 0).toInt),.int .i64 ((x1.cell 1).toInt),.list aa ((x1.cell 2).toList)])).set ((pivot:Int).toNat) (.agg [.int .i64 ((x2.cell 0).toInt),.int .i64 ((x2.cell 1).toInt),.list aa ((x2.cell 2).toList)]))[(eH:Int).toNat]?).bind fun ud=>
       bif (decide (0≤eH))&&(decide (eH<(((aj.set ((a:Int).toNat) (.agg [.int .i64 ((x1.cell 0).toInt),.int .i64 ((x1.cell 1).toInt),.list aa ((x1.cell 2).toList)])).set ((pivot:Int).toNat) (.agg [.int .i64 ((x2.cell 0).toInt),.int .i64 ((x2.cell 1).toInt),.list aa ((x2.cell 2).toList)])).length:Int))) then
       (((aj.set ((a:Int).toNat) (.agg [.int .i64 ((x1.cell 0).toInt),.int .i64 ((x1.cell 1).toInt),.list aa ((x1.cell 2).toList)])).set ((pivot:Int).toNat) (.agg [.int .i64 ((x2.cell 0).toInt),.int .i64 ((x2.cell 1).toInt),.list aa ((x2.cell 2).toList)]))[(eH:Int).toNat]?).bind fun Ek=>
       bif (decide (0≤dY))&&(decide (dY<((((aj.set ((a:Int).toNat) (.agg [.int .i64 ((x1.cell 0).toInt),.int .i64 ((x1.cell 1).toInt),.list aa ((x1.cell 2).toList)])).set ((pivot:Int).toNat) (.agg [.int .i64 ((x2.cell 0).toInt),.int .i64 ((x2.cell 1).toInt),.list aa ((x2.cell 2).toList)])).set ((eH:Int).toNat) (.agg [.int .i64 ((pc.cell 0).toInt),.int .i64 ((pc.cell 1).toInt),.list aa ((pc.cell 2).toList)])).length:Int))) then
        ((((aj.set ((a:Int).toNat) (.agg [.int .i64 ((x1.cell 0).toInt),.int .i64 ((x1.cell 1).toInt),.list aa ((x1.cell 2).toList)])).set ((pivot:Int).toNat) (.agg [.int .i64 ((x2.cell 0).toInt),.int .i64 ((x2.cell 1).toInt),.list aa ((x2.cell 2).toList)])).set ((eH:Int).toNat) (.agg [.int .i64 ((pc.cell 0).toInt),.int .i64 ((pc.cell 1).toInt),.list aa ((pc.cell 2).toList)]))[(dY:Int).toNat]?).bind fun x22=>
        (Loop (wR C a) (IntKind.wrap .i64 (eH+1),IntKind.wrap .i64 (dY-1),(((aj.set ((a:Int).toNat) (.agg [.int .i64 ((x1.cell 0).toInt),.int .i64 ((x1.cell 1).toInt),.list aa ((x1.cell 2).toList)])).set ((pivot:Int).toNat) (.agg [.int .i64 ((x2.cell 0).toInt),.int .i64 ((x2.cell 1).toInt),.list aa ((x2.cell 2).toList)])).set ((eH:Int).toNat) (.agg [.int .i64 ((pc.cell 0).toInt),.int .i64 ((pc.cell 1).toInt),.list aa ((pc.cell 2).toList)])).set ((dY:Int).toNat) (.agg [.int .i64 ((ud.cell 0).toInt),.int .i64 ((ud.cell 1).toInt),.list aa ((ud.cell 2).toList)]))).bind (un fun (Zk:Int)=>un fun (pe:Int)=>un fun (Pp:Bool) (jq:List V)=>
         bif (decide (0≤a))&&(decide (a<(jq.length:Int))) then
         (jq[(a:Int).toNat]?).bind fun l8=>
         bif (decide (0≤pe))&&(decide (pe<(jq.length:Int))) then
          (jq[(pe:Int).toNat]?).bind fun ue=>
          bif (decide (0≤pe))&&(decide (pe<(jq.length:Int))) then
          (jq[(pe:Int).toNat]?).bind fun x43=>
          bif (decide (0≤a))&&(decide (a<((jq.set ((pe:Int).toNat) (.agg [.int .i64 ((l8.cell 0).toInt),.int .i64 ((l8.cell 1).toInt),.list aa ((l8.cell 2).toList)])).length:Int))) then
           ((jq.set ((pe:Int).toNat) (.agg [.int .i64 ((l8.cell 0).toInt),.int .i64 ((l8.cell 1).toInt),.list aa ((l8.cell 2).toList)]))[(a:Int).toNat]?).bind fun x44=>
           some [.int .i64 pe,.bool false,.list aa ((jq.set ((pe:Int).toNat) (.agg [.int .i64 ((l8.cell 0).toInt),.int .i64 ((l8.cell 1).toInt),.list aa ((l8.cell 2).toList)])).set ((a:Int).toNat) (.agg [.int .i64 ((ue.cell 0).toInt),.int .i64 ((ue.cell 1).toInt),.list aa ((ue.cell 2).toList)]))]
          else none
          else none
         else none
         else none)
       else none
       else none
      else none
      else none))
   else none
  else none
  else none
 else none
theorem acf {a b' pivot:Int} {aj:List V} {r:Option (List V)} (h:QW CC a b' pivot aj=r):CC mR [.int .i64 a,.int .i64 b',.int .i64 pivot,.list aa aj]=r:=
 ba (key:=118) (L:=QV CC) (bs:=[.loop (av [1,1,1,0,0,0] pd),.loop (av [1,1,1,1,0,0,0] pd),.loop (av [1,1,1,1,1,1,1,1,1,0,0,0] pd)]) (by kernel_rfl) (bG (ab9 CC) (bG (aca CC) (bG (ace CC) aw))) (a8 (by kernel_rfl) h)
noncomputable abbrev wS:Code:=cP Try.prog (az.aZ 117)
noncomputable def z8 (C:ag) (a j:Int) (aj:List V) (i:Int) {β:Type} (kn:Int→Option β) (kr:(Int × Bool)→Option β):Option β:=
 bif decide ((i:Int)≤j) then
  bif (decide (0≤a))&&(decide (a<(aj.length:Int))) then
  (aj[(a:Int).toNat]?).bind fun x5=>
  bif (decide (0≤i))&&(decide (i<(aj.length:Int))) then
   (aj[(i:Int).toNat]?).bind fun x6=>
   (C aX [.int .i64 ((x5.cell 0).toInt),.int .i64 ((x5.cell 1).toInt),.list aa ((x5.cell 2).toList),.int .i64 ((x6.cell 0).toInt),.int .i64 ((x6.cell 1).toInt),.list aa ((x6.cell 2).toList)]).bind fun r7=>
   bif !(decide ((((V.nth r7 0).toInt):Int)<0)) then
   kn (IntKind.wrap .i64 (i+1))
   else
   kr (i,!(decide ((((V.nth r7 0).toInt):Int)<0)))
  else none
  else none
 else
  kr (i,false)
noncomputable def z9 (C:ag) (a j:Int) (aj:List V):(Int)→Option ((Int) ⊕ (Int × Bool)):=fun i=>z8 C a j aj i (fun y=>some (.inl y)) (fun r=>some (.inr r))
noncomputable def wU (C:ag) (a i:Int) (aj:List V) (j:Int) {β:Type} (kn:Int→Option β) (kr:(Int × Bool)→Option β):Option β:=
 bif decide ((i:Int)≤j) then
  bif (decide (0≤a))&&(decide (a<(aj.length:Int))) then
  (aj[(a:Int).toNat]?).bind fun mZ=>
  bif (decide (0≤j))&&(decide (j<(aj.length:Int))) then
   (aj[(j:Int).toNat]?).bind fun eG=>
   (C aX [.int .i64 ((mZ.cell 0).toInt),.int .i64 ((mZ.cell 1).toInt),.list aa ((mZ.cell 2).toList),.int .i64 ((eG.cell 0).toInt),.int .i64 ((eG.cell 1).toInt),.list aa ((eG.cell 2).toList)]).bind fun fy=>
   bif decide ((((V.nth fy 0).toInt):Int)<0) then
   kn (IntKind.wrap .i64 (j-1))
   else
   kr (j,decide ((((V.nth fy 0).toInt):Int)<0))
  else none
  else none
 else
  kr (j,false)
noncomputable def wV (C:ag) (a i:Int) (aj:List V):(Int)→Option ((Int) ⊕ (Int × Bool)):=fun j=>wU C a i aj j (fun y=>some (.inl y)) (fun r=>some (.inr r))
noncomputable def Aa (C:ag) (a i j:Int) (aj:List V) {β:Type} (kn:(Int × Int × (List V))→Option β) (kr:(Int × Int × Bool × (List V))→Option β):Option β:=
 (Loop (z9 C a j aj) i).bind (un fun (eH:Int) (rL:Bool)=>
  (Loop (wV C a eH aj) j).bind (un fun (dY:Int) (zA:Bool)=>
   bif decide ((eH:Int)>dY) then
    kr (eH,dY,decide ((eH:Int)>dY),aj)
   else
    bif (decide (0≤dY))&&(decide (dY<(aj.length:Int))) then
    (aj[(dY:Int).toNat]?).bind fun fA=>
    bif (decide (0≤eH))&&(decide (eH<(aj.length:Int))) then
     (aj[(eH:Int).toNat]?).bind fun gf=>
     bif (decide (0≤eH))&&(decide (eH<(aj.length:Int))) then
     (aj[(eH:Int).toNat]?).bind fun qz=>
     bif (decide (0≤dY))&&(decide (dY<((aj.set ((eH:Int).toNat) (.agg [.int .i64 ((fA.cell 0).toInt),.int .i64 ((fA.cell 1).toInt),.list aa ((fA.cell 2).toList)])).length:Int))) then
      ((aj.set ((eH:Int).toNat) (.agg [.int .i64 ((fA.cell 0).toInt),.int .i64 ((fA.cell 1).toInt),.list aa ((fA.cell 2).toList)]))[(dY:Int).toNat]?).bind fun wK=>
      kn (IntKind.wrap .i64 (eH+1),IntKind.wrap .i64 (dY-1),(aj.set ((eH:Int).toNat) (.agg [.int .i64 ((fA.cell 0).toInt),.int .i64 ((fA.cell 1).toInt),.list aa ((fA.cell 2).toList)])).set ((dY:Int).toNat) (.agg [.int .i64 ((gf.cell 0).toInt),.int .i64 ((gf.cell 1).toInt),.list aa ((gf.cell 2).toList)]))
     else none
     else none
    else none
    else none))
noncomputable def wW (C:ag) (a:Int):(Int × Int × (List V))→Option ((Int × Int × (List V)) ⊕ (Int × Int × Bool × (List V))):=un fun i=>un fun j aj=>Aa C a i j aj (fun y=>some (.inl y)) (fun r=>some (.inr r))
noncomputable def QX (C:ag):cC:=fun β n ds k=>
 bif Nat.beq n 49 then ch IS [false,true,false,false] [[1,0,3,0,4]] (@z8 C) ds k else
 bif Nat.beq n 81 then ch IT [false,false,true,false] [[1,2,0,0,4]] (@wU C) ds k else
 bif Nat.beq n 50 then ch IU [false,true,true,true] [[1,0,0,0,0]] (@Aa C) ds k else
 none
abbrev JL (C:ag) (b:cx):Prop:=cy Try.prog az C (QX C) 117 (cT Try.prog (az.aZ 117)) (az.sin 117).aY.length b
theorem acg (C:ag):JL C (.loop (av [1,1,1,0,0,0,0,0,0,0] wS)):=
 ct IS [false,true,false,false] [[1,0,3,0,4]] (@z8 C) (by kernel_rfl) (bf (bs:=[]) (by kernel_rfl) aw) (fun ds=>by kernel_rfl) (fun i x=>by kernel_rfl) (fun i x β k=>by kernel_rfl) (fun β ds k=>by kernel_rfl)
theorem ach (C:ag):JL C (.loop (av [1,1,1,0,0,0,0,1,0,0,0] wS)):=
 ct IT [false,false,true,false] [[1,2,0,0,4]] (@wU C) (by kernel_rfl) (bf (bs:=[]) (by kernel_rfl) aw) (fun ds=>by kernel_rfl) (fun i x=>by kernel_rfl) (fun i x β k=>by kernel_rfl) (fun β ds k=>by kernel_rfl)
theorem aci (C:ag):JL C (.loop (av [1,1,1,0,0,0] wS)):=
 ct IU [false,true,true,true] [[1,0,0,0,0]] (@Aa C) (by kernel_rfl) (bf (bs:=[.loop (av [1,1,1,0,0,0,0,0,0,0] wS),.loop (av [1,1,1,0,0,0,0,1,0,0,0] wS)]) (by kernel_rfl) (bG (acg C) (bG (ach C) aw))) (fun ds=>by kernel_rfl) (fun i x=>by kernel_rfl) (fun i x β k=>by kernel_rfl) (fun β ds k=>by kernel_rfl)
noncomputable def QY (C:ag) (a b' pivot:Int) (aj:List V):Option (List V):=
 bif (decide (0≤pivot))&&(decide (pivot<(aj.length:Int))) then
  (aj[(pivot:Int).toNat]?).bind fun x1=>
  bif (decide (0≤a))&&(decide (a<(aj.length:Int))) then
  (aj[(a:Int).toNat]?).bind fun x2=>
  bif (decide (0≤a))&&(decide (a<(aj.length:Int))) then
   (aj[(a:Int).toNat]?).bind fun x3=>
   bif (decide (0≤pivot))&&(decide (pivot<((aj.set ((a:Int).toNat) (.agg [.int .i64 ((x1.cell 0).toInt),.int .i64 ((x1.cell 1).toInt),.list aa ((x1.cell 2).toList)])).length:Int))) then
   ((aj.set ((a:Int).toNat) (.agg [.int .i64 ((x1.cell 0).toInt),.int .i64 ((x1.cell 1).toInt),.list aa ((x1.cell 2).toList)]))[(pivot:Int).toNat]?).bind fun x4=>
   (Loop (wW C a) (IntKind.wrap .i64 (a+1),IntKind.wrap .i64 (b'-1),(aj.set ((a:Int).toNat) (.agg [.int .i64 ((x1.cell 0).toInt),.int .i64 ((x1.cell 1).toInt),.list aa ((x1.cell 2).toList)])).set ((pivot:Int).toNat) (.agg [.int .i64 ((x2.cell 0).toInt),.int .i64 ((x2.cell 1).toInt),.list aa ((x2.cell 2).toList)]))).bind (un fun (acj:Int)=>un fun (ahq:Int)=>un fun (Je:Bool) (ack:List V)=>
    some [.int .i64 acj,.list aa ack])
   else none
  else none
  else none
 else none
theorem acm {a b' pivot:Int} {aj:List V} {r:Option (List V)} (h:QY CC a b' pivot aj=r):CC tG [.int .i64 a,.int .i64 b',.int .i64 pivot,.list aa aj]=r:=
 ba (key:=117) (L:=QX CC) (bs:=[.loop (av [1,1,1,0,0,0] wS)]) (by kernel_rfl) (bG (aci CC) aw) (a8 (by kernel_rfl) h)
noncomputable abbrev m9:Code:=cP Try.prog (az.aZ 116)
noncomputable def Ab (C:ag) (a b' j:Int) (aj:List V) (i:Int) {β:Type} (kn:Int→Option β) (kr:(Int × Bool)→Option β):Option β:=
 bif decide ((i:Int)<b') then
  bif (decide (0≤i))&&(decide (i<(aj.length:Int))) then
  (aj[(i:Int).toNat]?).bind fun x1=>
  bif (decide (0≤(IntKind.wrap .i64 (i-1))))&&(decide ((IntKind.wrap .i64 (i-1))<(aj.length:Int))) then
   (aj[(IntKind.wrap .i64 (i-1):Int).toNat]?).bind fun x2=>
   (C aX [.int .i64 ((x1.cell 0).toInt),.int .i64 ((x1.cell 1).toInt),.list aa ((x1.cell 2).toList),.int .i64 ((x2.cell 0).toInt),.int .i64 ((x2.cell 1).toInt),.list aa ((x2.cell 2).toList)]).bind fun r3=>
   bif !(decide ((((V.nth r3 0).toInt):Int)<0)) then
   kn (IntKind.wrap .i64 (i+1))
   else
   kr (i,!(decide ((((V.nth r3 0).toInt):Int)<0)))
  else none
  else none
 else
  kr (i,false)
noncomputable def Ac (C:ag) (a b' j:Int) (aj:List V):(Int)→Option ((Int) ⊕ (Int × Bool)):=fun i=>Ab C a b' j aj i (fun y=>some (.inl y)) (fun r=>some (.inr r))
noncomputable def Ad (C:ag) (a b' i j j':Int) (aj:List V) {β:Type} (kn:(Int × (List V))→Option β) (kr:(Int × (List V))→Option β):Option β:=
 bif decide ((j':Int)≥1) then
  bif (decide (0≤j'))&&(decide (j'<(aj.length:Int))) then
  (aj[(j':Int).toNat]?).bind fun mZ=>
  bif (decide (0≤(IntKind.wrap .i64 (j'-1))))&&(decide ((IntKind.wrap .i64 (j'-1))<(aj.length:Int))) then
   (aj[(IntKind.wrap .i64 (j'-1):Int).toNat]?).bind fun eG=>
   (C aX [.int .i64 ((mZ.cell 0).toInt),.int .i64 ((mZ.cell 1).toInt),.list aa ((mZ.cell 2).toList),.int .i64 ((eG.cell 0).toInt),.int .i64 ((eG.cell 1).toInt),.list aa ((eG.cell 2).toList)]).bind fun fy=>
   bif !(decide ((((V.nth fy 0).toInt):Int)<0)) then
   kr (j',aj)
   else
   bif (decide (0≤(IntKind.wrap .i64 (j'-1))))&&(decide ((IntKind.wrap .i64 (j'-1))<(aj.length:Int))) then
    (aj[(IntKind.wrap .i64 (j'-1):Int).toNat]?).bind fun jn=>
    bif (decide (0≤j'))&&(decide (j'<(aj.length:Int))) then
    (aj[(j':Int).toNat]?).bind fun m8=>
    bif (decide (0≤j'))&&(decide (j'<(aj.length:Int))) then
     (aj[(j':Int).toNat]?).bind fun fA=>
     bif (decide (0≤(IntKind.wrap .i64 (j'-1))))&&(decide ((IntKind.wrap .i64 (j'-1))<((aj.set ((j':Int).toNat) (.agg [.int .i64 ((jn.cell 0).toInt),.int .i64 ((jn.cell 1).toInt),.list aa ((jn.cell 2).toList)])).length:Int))) then
     ((aj.set ((j':Int).toNat) (.agg [.int .i64 ((jn.cell 0).toInt),.int .i64 ((jn.cell 1).toInt),.list aa ((jn.cell 2).toList)]))[(IntKind.wrap .i64 (j'-1):Int).toNat]?).bind fun gf=>
     kn (IntKind.wrap .i64 (j'-1),(aj.set ((j':Int).toNat) (.agg [.int .i64 ((jn.cell 0).toInt),.int .i64 ((jn.cell 1).toInt),.list aa ((jn.cell 2).toList)])).set ((IntKind.wrap .i64 (j'-1):Int).toNat) (.agg [.int .i64 ((m8.cell 0).toInt),.int .i64 ((m8.cell 1).toInt),.list aa ((m8.cell 2).toList)]))
     else none
    else none
    else none
   else none
  else none
  else none
 else
  kr (j',aj)
noncomputable def Ae (C:ag) (a b' i j:Int):(Int × (List V))→Option ((Int × (List V)) ⊕ (Int × (List V))):=un fun j' aj=>Ad C a b' i j j' aj (fun y=>some (.inl y)) (fun r=>some (.inr r))
noncomputable def El (C:ag) (a b' i j:Int) (t65:Bool) (aj:List V) {β:Type} (kr:(List V)→Option β):Option β:=
 bif t65 then
  (Loop (Ae C a b' i j) (IntKind.wrap .i64 (i-1),aj)).bind (un fun (ahr:Int) (acn:List V)=>
   kr acn)
 else
  kr aj
noncomputable def Af (C:ag) (a b' i j j':Int) (aj:List V) {β:Type} (kn:(Int × (List V))→Option β) (kr:(Int × (List V))→Option β):Option β:=
 bif decide ((j':Int)<b') then
  bif (decide (0≤j'))&&(decide (j'<(aj.length:Int))) then
  (aj[(j':Int).toNat]?).bind fun ud=>
  bif (decide (0≤(IntKind.wrap .i64 (j'-1))))&&(decide ((IntKind.wrap .i64 (j'-1))<(aj.length:Int))) then
   (aj[(IntKind.wrap .i64 (j'-1):Int).toNat]?).bind fun Ek=>
   (C aX [.int .i64 ((ud.cell 0).toInt),.int .i64 ((ud.cell 1).toInt),.list aa ((ud.cell 2).toList),.int .i64 ((Ek.cell 0).toInt),.int .i64 ((Ek.cell 1).toInt),.list aa ((Ek.cell 2).toList)]).bind fun iT=>
   bif !(decide ((((V.nth iT 0).toInt):Int)<0)) then
   kr (j',aj)
   else
   bif (decide (0≤(IntKind.wrap .i64 (j'-1))))&&(decide ((IntKind.wrap .i64 (j'-1))<(aj.length:Int))) then
    (aj[(IntKind.wrap .i64 (j'-1):Int).toNat]?).bind fun jo=>
    bif (decide (0≤j'))&&(decide (j'<(aj.length:Int))) then
    (aj[(j':Int).toNat]?).bind fun ua=>
    bif (decide (0≤j'))&&(decide (j'<(aj.length:Int))) then
     (aj[(j':Int).toNat]?).bind fun x25=>
     bif (decide (0≤(IntKind.wrap .i64 (j'-1))))&&(decide ((IntKind.wrap .i64 (j'-1))<((aj.set ((j':Int).toNat) (.agg [.int .i64 ((jo.cell 0).toInt),.int .i64 ((jo.cell 1).toInt),.list aa ((jo.cell 2).toList)])).length:Int))) then
     ((aj.set ((j':Int).toNat) (.agg [.int .i64 ((jo.cell 0).toInt),.int .i64 ((jo.cell 1).toInt),.list aa ((jo.cell 2).toList)]))[(IntKind.wrap .i64 (j'-1):Int).toNat]?).bind fun x26=>
     kn (IntKind.wrap .i64 (j'+1),(aj.set ((j':Int).toNat) (.agg [.int .i64 ((jo.cell 0).toInt),.int .i64 ((jo.cell 1).toInt),.list aa ((jo.cell 2).toList)])).set ((IntKind.wrap .i64 (j'-1):Int).toNat) (.agg [.int .i64 ((ua.cell 0).toInt),.int .i64 ((ua.cell 1).toInt),.list aa ((ua.cell 2).toList)]))
     else none
    else none
    else none
   else none
  else none
  else none
 else
  kr (j',aj)
noncomputable def Ag (C:ag) (a b' i j:Int):(Int × (List V))→Option ((Int × (List V)) ⊕ (Int × (List V))):=un fun j' aj=>Af C a b' i j j' aj (fun y=>some (.inl y)) (fun r=>some (.inr r))
noncomputable def Ah (C:ag) (a b' i j:Int) (aj:List V) {β:Type} (kn:(Int × Int × (List V))→Option β) (kr:((Bool × (List V)) ⊕ (Int × Int × Bool × (List V)))→Option β):Option β:=
 bif decide ((j:Int)<5) then
  (Loop (Ac C a b' j aj) i).bind (un fun (eQ:Int) (o0:Bool)=>
   bif (eQ:Int)==b' then
   kr (.inl (true,aj))
   else
   bif decide (((IntKind.wrap .i64 (b'-a)):Int)<50) then
    kr (.inl (false,aj))
   else
    bif (decide (0≤(IntKind.wrap .i64 (eQ-1))))&&(decide ((IntKind.wrap .i64 (eQ-1))<(aj.length:Int))) then
    (aj[(IntKind.wrap .i64 (eQ-1):Int).toNat]?).bind fun x6=>
    bif (decide (0≤eQ))&&(decide (eQ<(aj.length:Int))) then
     (aj[(eQ:Int).toNat]?).bind fun x7=>
     bif (decide (0≤eQ))&&(decide (eQ<(aj.length:Int))) then
     (aj[(eQ:Int).toNat]?).bind fun x8=>
     bif (decide (0≤(IntKind.wrap .i64 (eQ-1))))&&(decide ((IntKind.wrap .i64 (eQ-1))<((aj.set ((eQ:Int).toNat) (.agg [.int .i64 ((x6.cell 0).toInt),.int .i64 ((x6.cell 1).toInt),.list aa ((x6.cell 2).toList)])).length:Int))) then
      ((aj.set ((eQ:Int).toNat) (.agg [.int .i64 ((x6.cell 0).toInt),.int .i64 ((x6.cell 1).toInt),.list aa ((x6.cell 2).toList)]))[(IntKind.wrap .i64 (eQ-1):Int).toNat]?).bind fun x9=>
      El C a b' eQ j (decide (((IntKind.wrap .i64 (eQ-a)):Int)≥2)) ((aj.set ((eQ:Int).toNat) (.agg [.int .i64 ((x6.cell 0).toInt),.int .i64 ((x6.cell 1).toInt),.list aa ((x6.cell 2).toList)])).set ((IntKind.wrap .i64 (eQ-1):Int).toNat) (.agg [.int .i64 ((x7.cell 0).toInt),.int .i64 ((x7.cell 1).toInt),.list aa ((x7.cell 2).toList)])) (fun (QZ:List V)=>
       bif decide (((IntKind.wrap .i64 (b'-eQ)):Int)≥2) then
       (Loop (Ag C a b' eQ j) (IntKind.wrap .i64 (eQ+1),QZ)).bind (un fun (ahs:Int) (aco:List V)=>
        kn (eQ,IntKind.wrap .i64 (j+1),aco))
       else
       kn (eQ,IntKind.wrap .i64 (j+1),QZ))
     else none
     else none
    else none
    else none)
 else
  kr (.inr (i,j,decide ((j:Int)<5),aj))
noncomputable def rU (C:ag) (a b':Int):(Int × Int × (List V))→Option ((Int × Int × (List V)) ⊕ ((Bool × (List V)) ⊕ (Int × Int × Bool × (List V)))):=un fun i=>un fun j aj=>Ah C a b' i j aj (fun y=>some (.inl y)) (fun r=>some (.inr r))
noncomputable def Q0 (C:ag):cC:=fun β n ds k=>
 bif Nat.beq n 81 then ch IL [false,false,true,false,false] [[1,2,0,4,0,5]] (@Ab C) ds k else
 bif Nat.beq n 225 then ch IM [false,false,false,false,true,true] [[1,2,3,4,0,0]] (@Ad C) ds k else
 bif Nat.beq n 1055 then iz IN [[1,2,3,4,0]] (@El C) ds k else
 bif Nat.beq n 321 then ch IP [false,false,false,false,true,true] [[1,2,3,4,0,0]] (@Af C) ds k else
 bif Nat.beq n 49 then ch IQ [false,false,true,true,true] [[0,0],[1,2,0,0,0,0]] (@Ah C) ds k else
 none
abbrev Ai (C:ag) (b:cx):Prop:=cy Try.prog az C (Q0 C) 116 (cT Try.prog (az.aZ 116)) (az.sin 116).aY.length b
theorem acp (C:ag):Ai C (.loop (av [1,1,0,1,0,0,1,0,0,0,0,0] m9)):=
 ct IL [false,false,true,false,false] [[1,2,0,4,0,5]] (@Ab C) (by kernel_rfl) (bf (bs:=[]) (by kernel_rfl) aw) (fun ds=>by kernel_rfl) (fun i x=>by kernel_rfl) (fun i x β k=>by kernel_rfl) (fun β ds k=>by kernel_rfl)
theorem acq (C:ag):Ai C (.loop (av [1,1,0,1,0,0,1,0,0,1,1,1,1,0,1,0,1,0,0] m9)):=
 ct IM [false,false,false,false,true,true] [[1,2,3,4,0,0]] (@Ad C) (by kernel_rfl) (bf (bs:=[]) (by kernel_rfl) aw) (fun ds=>by kernel_rfl) (fun i x=>by kernel_rfl) (fun i x β k=>by kernel_rfl) (fun β ds k=>by kernel_rfl)
theorem acr (C:ag):Ai C (.cond 65 (av [1,1,0,1,0,0,1,0,0,1,1,1,1,0,1,0] m9) (av [1,1,0,1,0,0,1,0,0,1,1,1,1,0,1,1] m9)):=
 iQ IN [[1,2,3,4,0]] (@El C) (by kernel_rfl) (bf (bs:=[.loop (av [1,1,0,1,0,0,1,0,0,1,1,1,1,0,1,0,1,0,0] m9)]) (by kernel_rfl) (bG (acq C) aw)) (bf (bs:=[]) (by kernel_rfl) aw) (fun ds=>by kernel_rfl) (fun i β k=>by kernel_rfl) (fun β ds k=>by kernel_rfl)
theorem acs (C:ag):Ai C (.loop (av [1,1,0,1,0,0,1,0,0,1,1,1,1,1,1,0,1,0,0] m9)):=
 ct IP [false,false,false,false,true,true] [[1,2,3,4,0,0]] (@Af C) (by kernel_rfl) (bf (bs:=[]) (by kernel_rfl) aw) (fun ds=>by kernel_rfl) (fun i x=>by kernel_rfl) (fun i x β k=>by kernel_rfl) (fun β ds k=>by kernel_rfl)
theorem acu (C:ag):Ai C (.loop (av [1,1,0,1,0,0] m9)):=
 ct IQ [false,false,true,true,true] [[0,0],[1,2,0,0,0,0]] (@Ah C) (by kernel_rfl) (bf (bs:=[.loop (av [1,1,0,1,0,0,1,0,0,0,0,0] m9),.cond 65 (av [1,1,0,1,0,0,1,0,0,1,1,1,1,0,1,0] m9) (av [1,1,0,1,0,0,1,0,0,1,1,1,1,0,1,1] m9),.loop (av [1,1,0,1,0,0,1,0,0,1,1,1,1,1,1,0,1,0,0] m9)]) (by kernel_rfl) (bG (acp C) (bG (acr C) (bG (acs C) aw)))) (fun ds=>by kernel_rfl) (fun i x=>by kernel_rfl) (fun i x β k=>by kernel_rfl) (fun β ds k=>by kernel_rfl)
noncomputable def Q1 (C:ag) (a b':Int) (aj:List V):Option (List V):=
 (Loop (rU C a b') (IntKind.wrap .i64 (a+1),0,aj)).bind (b9 (un fun (Pk:Bool) (acv:List V)=>
  some [.bool Pk,.list aa acv]) (un fun (aht:Int)=>un fun (ahu:Int)=>un fun (Pm:Bool) (acw:List V)=>
  some [.bool false,.list aa acw]))
theorem acx {a b':Int} {aj:List V} {r:Option (List V)} (h:Q1 CC a b' aj=r):CC DG [.int .i64 a,.int .i64 b',.list aa aj]=r:=
 ba (key:=116) (L:=Q0 CC) (bs:=[.loop (av [1,1,0,1,0,0] m9)]) (by kernel_rfl) (bG (acu CC) aw) (a8 (by kernel_rfl) h)
end Go.AM
set_option maxRecDepth 100000
set_option maxHeartbeats 4000000
namespace Go.AM.SX
open Go.Proofs Go.Sort
theorem wX (p:XE→Bool) (d:Array XE) (j i:Nat):scanUp p d j i=if i≤j then (if p d[i]! =true then scanUp p d j (i+1) else i) else i:=by
 conv=>lhs;rw[scanUp]
 by_cases h:i≤j
 ·rw[ak h];simp only[h,qN,mn]
 ·rw[ai h,ai (by simp[h])]
theorem JM (p:XE→Bool) (d:Array XE) (i j:Nat):scanDown p d i (j+1)=if i≤j+1 then (if p d[j+1]! =true then scanDown p d i j else j+1) else j+1:=by
 conv=>lhs;rw[scanDown]
 by_cases h:i≤j+1
 ·rw[ak h];simp only[h,qN,mn]
 ·rw[ai h,ai (by simp[h])]
theorem Em (d:Array XE) (b i:Nat):scanSorted ax d b i=if i<b then (if bI d[i]! d[i-1]! <0 then i else scanSorted ax d b (i+1)) else i:=by
 conv=>lhs;rw[scanSorted]
 by_cases h:i<b
 ·rw[ak h];simp only[h,qN,mn,qB]
  by_cases U:bI d[i]! d[i-1]! <0
  ·rw[ai (pA U),ak U]
  ·rw[ak U,ai U]
 ·rw[ai h,ai (by simp[h])]
theorem Q2 (j:Nat) (d:Array XE):shiftDown ax (j+1) d=if bI d[j+1]! d[j]! <0 then shiftDown ax j (swp d (j+1) j) else d:=by
 conv=>lhs;rw[shiftDown]
 simp only[qB]
 by_cases U:bI d[j+1]! d[j]! <0
 ·rw[ai (pA U),ak U]
 ·rw[ak U,ai U]
theorem En (b j:Nat) (d:Array XE):shiftUp ax b j d=if j<b then (if bI d[j]! d[j-1]! <0 then shiftUp ax b (j+1) (swp d j (j-1)) else d) else d:=by
 conv=>lhs;rw[shiftUp]
 simp only[qB]
 by_cases h:j<b
 ·rw[ak h,ak h]
  by_cases U:bI d[j]! d[j-1]! <0
  ·rw[ai (pA U),ak U]
  ·rw[ak U,ai U]
 ·rw[ai h,ai h]
theorem acy {a:Nat}: ∀(n i j:Nat) (d:Array XE),j+1-i≤n→(partLoop ax a i j d).2.size=d.size∧(partLoop ax a i j d).1≤j:=by
 intro n
 induction n with
 | zero=>
  intro i j d hn
  have h1:=scanUp_ge (fun x=>ax x d[a]!) d j i
  have U:=scanDown_le (fun x=> !ax x d[a]!) d (scanUp (fun x=>ax x d[a]!) d j i) j
  rw[partLoop_eq,ak (by omega)]
  exact ⟨rfl,U⟩
 | succ n ih=>
  intro i j d hn
  rw[partLoop_eq]
  have h1:=scanUp_ge (fun x=>ax x d[a]!) d j i
  have U:=scanDown_le (fun x=> !ax x d[a]!) d (scanUp (fun x=>ax x d[a]!) d j i) j
  split
  ·exact ⟨rfl,U⟩
  ·obtain ⟨h3,h4⟩:=ih (scanUp (fun x=>ax x d[a]!) d j i+1) (scanDown (fun x=> !ax x d[a]!) d (scanUp (fun x=>ax x d[a]!) d j i) j-1) (swp d (scanUp (fun x=>ax x d[a]!) d j i) (scanDown (fun x=> !ax x d[a]!) d (scanUp (fun x=>ax x d[a]!) d j i) j)) (by omega)
   exact ⟨by rw[h3,size_swp],by omega⟩
theorem jV {β:Type} {d:Array XE} {i:Nat} {x y:Option β} (h:i<d.size):(bif (decide (0≤(i:Int)))&&(decide ((i:Int)<((eA d).length:Int))) then x else y)=x:=by
 rw[fu,df,aA,ak (by omega),aA,ak (by omega)]
theorem Eo {β:Type} {d:Array XE} {i k:Nat} {v:V} {x y:Option β} (h:i<d.size):(bif (decide (0≤(i:Int)))&&(decide ((i:Int)<(((eA d).set k v).length:Int))) then x else y)=x:=by
 rw[nr,fu,df,aA,ak (by omega),aA,ak (by omega)]
theorem jW {β:Type} {d:Array XE} {i:Nat} {f:V→Option β} (h:i<d.size):((eA d)[(i:Int).toNat]?).bind f=f (d[i]!).enc:=by
 rw[Int.toNat_natCast,fw h];rfl
theorem Ep {β:Type} {d:Array XE} {i k:Nat} {v:V} {x:Option β} (h:i<d.size):(((eA d).set k v)[(i:Int).toNat]?).bind (fun _=>x)=x:=by
 rw[Int.toNat_natCast,bq (by rw[nr,fu];exact h)];rfl
theorem qD {β:Type} {d:Array XE} {i:Nat} {f:V→Option β} (h:i<d.size):((eA d)[i]?).bind f=f (d[i]!).enc:=by
 rw[fw h];rfl
theorem JN {β:Type} {d:Array XE} {i k:Nat} {v:V} {x:Option β} (h:i<d.size):(((eA d).set k v)[i]?).bind (fun _=>x)=x:=by
 rw[bq (by rw[nr,fu];exact h)];rfl
theorem acz {a j:Nat} {d:Array XE} (ha:a<d.size) (hj:j<d.size) (hs:d.size<1152921504606846976): ∀(n i:Nat),j+1-i=n→i≤d.size→
  ∃t,Loop (zZ CC a j (eA d)) (i:Int)=some (((scanUp (fun x=>ax x d[a]!) d j i:Nat):Int),t):=by
 intro n
 induction n with
 | zero=>
  intro i hn hi
  rw[wX,ai (by omega)]
  exact ⟨false,bc (by simp (disch:=omega) only[zZ,zY,aA,ai])⟩
 | succ n ih=>
  intro i hn hi
  obtain ⟨t,h⟩:=ih (i+1) (by omega) (by omega)
  rw[wX,ak (by omega)]
  have e:zZ CC a j (eA d) (i:Int)=if bI d[i]! d[a]! <0 then some (.inl ((i+1:Nat):Int)) else some (.inr ((i:Int),decide (bI d[i]! d[a]! <0))):=by
   simp (disch:=omega) only[zZ,zY,aA,df,gB,ak,ai,wrap64,dw,fx,Int.toNat_natCast,Option.bind_some,fu,fw,XE.bw,XE.bx,XE.bz,XE.re,fv,gY,gm,gd,V.aV,V.toInt_int,cond_true,cond_false]
  simp only[rT]
  by_cases U:bI d[i]! d[a]! <0
  ·rw[ak U] at e
   rw[ak U]
   exact ⟨t,(bV e).trans h⟩
  ·rw[ai U] at e
   rw[ai U]
   exact ⟨_,bc e⟩
theorem Q3 {a j:Nat} {d:Array XE} (ha:a<d.size) (hj:j<d.size) (hs:d.size<1152921504606846976): ∀(n i:Nat),j+1-i=n→i≤d.size→
  ∃t,Loop (z5 CC a j (eA d)) (i:Int)=some (((scanUp (fun x=>ax x d[a]!) d j i:Nat):Int),t):=by
 intro n
 induction n with
 | zero=>
  intro i hn hi
  rw[wX,ai (by omega)]
  exact ⟨false,bc (by simp (disch:=omega) only[z5,z0,aA,ai])⟩
 | succ n ih=>
  intro i hn hi
  obtain ⟨t,h⟩:=ih (i+1) (by omega) (by omega)
  rw[wX,ak (by omega)]
  have e:z5 CC a j (eA d) (i:Int)=if bI d[i]! d[a]! <0 then some (.inl ((i+1:Nat):Int)) else some (.inr ((i:Int),decide (bI d[i]! d[a]! <0))):=by
   simp (disch:=omega) only[z5,z0,aA,df,gB,ak,ai,wrap64,dw,fx,Int.toNat_natCast,Option.bind_some,fu,fw,XE.bw,XE.bx,XE.bz,XE.re,fv,gY,gm,gd,V.aV,V.toInt_int,cond_true,cond_false]
  simp only[rT]
  by_cases U:bI d[i]! d[a]! <0
  ·rw[ak U] at e
   rw[ak U]
   exact ⟨t,(bV e).trans h⟩
  ·rw[ai U] at e
   rw[ai U]
   exact ⟨_,bc e⟩
theorem Q4 {a i:Nat} {d:Array XE} (ha:a<d.size) (hi:1≤i) (hs:d.size<1152921504606846976): ∀(j:Nat),j<d.size→
  ∃t,Loop (wO CC a i (eA d)) (j:Int)=some (((scanDown (fun x=> !ax x d[a]!) d i j:Nat):Int),t)
 | 0,hj=>⟨false,bc (by simp (disch:=omega) only[wO,wM,aA,ai];rfl)⟩
 | j+1,hj=>by
  obtain ⟨t,h⟩:=Q4 ha hi hs j (by omega)
  rw[JM]
  by_cases h1:i≤j+1
  ·rw[ak h1]
   have e:wO CC a i (eA d) ((j+1:Nat):Int)=if bI d[j+1]! d[a]! <0 then some (.inr (((j+1:Nat):Int),!decide (bI d[j+1]! d[a]! <0))) else some (.inl (j:Int)):=by
    simp (disch:=omega) only[wO,wM,aA,df,gB,ak,ai,wrap64,dw,fx,Int.toNat_natCast,Option.bind_some,fu,fw,XE.bw,XE.bx,XE.bz,XE.re,fv,gY,gm,gd,V.aV,V.toInt_int,cond_true,cond_false,tY]
   simp only[qB]
   by_cases U:bI d[j+1]! d[a]! <0
   ·rw[ak U] at e
    rw[ai (pA U)]
    exact ⟨_,bc e⟩
   ·rw[ai U] at e
    rw[ak U]
    exact ⟨t,(bV e).trans h⟩
  ·rw[ai h1]
   exact ⟨false,bc (by simp (disch:=omega) only[wO,wM,aA,ai])⟩
theorem JO {a i:Nat} {d:Array XE} (ha:a<d.size) (hi:1≤i) (hs:d.size<1152921504606846976): ∀(j:Nat),j<d.size→
  ∃t,Loop (wQ CC a i (eA d)) (j:Int)=some (((scanDown (fun x=> !ax x d[a]!) d i j:Nat):Int),t)
 | 0,hj=>⟨false,bc (by simp (disch:=omega) only[wQ,wP,aA,ai];rfl)⟩
 | j+1,hj=>by
  obtain ⟨t,h⟩:=JO ha hi hs j (by omega)
  rw[JM]
  by_cases h1:i≤j+1
  ·rw[ak h1]
   have e:wQ CC a i (eA d) ((j+1:Nat):Int)=if bI d[j+1]! d[a]! <0 then some (.inr (((j+1:Nat):Int),!decide (bI d[j+1]! d[a]! <0))) else some (.inl (j:Int)):=by
    simp (disch:=omega) only[wQ,wP,aA,df,gB,ak,ai,wrap64,dw,fx,Int.toNat_natCast,Option.bind_some,fu,fw,XE.bw,XE.bx,XE.bz,XE.re,fv,gY,gm,gd,V.aV,V.toInt_int,cond_true,cond_false,tY]
   simp only[qB]
   by_cases U:bI d[j+1]! d[a]! <0
   ·rw[ak U] at e
    rw[ai (pA U)]
    exact ⟨_,bc e⟩
   ·rw[ai U] at e
    rw[ak U]
    exact ⟨t,(bV e).trans h⟩
  ·rw[ai h1]
   exact ⟨false,bc (by simp (disch:=omega) only[wQ,wP,aA,ai])⟩
theorem Q5 {a j:Nat} {d:Array XE} (ha:a<d.size) (hj:j<d.size) (hs:d.size<1152921504606846976): ∀(n i:Nat),j+1-i=n→i≤d.size→
  ∃t,Loop (z9 CC a j (eA d)) (i:Int)=some (((scanUp (fun x=> !ax d[a]! x) d j i:Nat):Int),t):=by
 intro n
 induction n with
 | zero=>
  intro i hn hi
  rw[wX,ai (by omega)]
  exact ⟨false,bc (by simp (disch:=omega) only[z9,z8,aA,ai])⟩
 | succ n ih=>
  intro i hn hi
  obtain ⟨t,h⟩:=ih (i+1) (by omega) (by omega)
  rw[wX,ak (by omega)]
  have e:z9 CC a j (eA d) (i:Int)=if bI d[a]! d[i]! <0 then some (.inr ((i:Int),!decide (bI d[a]! d[i]! <0))) else some (.inl ((i+1:Nat):Int)):=by
   simp (disch:=omega) only[z9,z8,aA,df,gB,ak,ai,wrap64,dw,fx,Int.toNat_natCast,Option.bind_some,fu,fw,XE.bw,XE.bx,XE.bz,XE.re,fv,gY,gm,gd,V.aV,V.toInt_int,cond_true,cond_false]
  simp only[qB]
  by_cases U:bI d[a]! d[i]! <0
  ·rw[ak U] at e
   rw[ai (pA U)]
   exact ⟨_,bc e⟩
  ·rw[ai U] at e
   rw[ak U]
   exact ⟨t,(bV e).trans h⟩
theorem JP {a i:Nat} {d:Array XE} (ha:a<d.size) (hi:1≤i) (hs:d.size<1152921504606846976): ∀(j:Nat),j<d.size→
  ∃t,Loop (wV CC a i (eA d)) (j:Int)=some (((scanDown (fun x=>ax d[a]! x) d i j:Nat):Int),t)
 | 0,hj=>⟨false,bc (by simp (disch:=omega) only[wV,wU,aA,ai];rfl)⟩
 | j+1,hj=>by
  obtain ⟨t,h⟩:=JP ha hi hs j (by omega)
  rw[JM]
  by_cases h1:i≤j+1
  ·rw[ak h1]
   have e:wV CC a i (eA d) ((j+1:Nat):Int)=if bI d[a]! d[j+1]! <0 then some (.inl (j:Int)) else some (.inr (((j+1:Nat):Int),decide (bI d[a]! d[j+1]! <0))):=by
    simp (disch:=omega) only[wV,wU,aA,df,gB,ak,ai,wrap64,dw,fx,Int.toNat_natCast,Option.bind_some,fu,fw,XE.bw,XE.bx,XE.bz,XE.re,fv,gY,gm,gd,V.aV,V.toInt_int,cond_true,cond_false,tY]
   simp only[rT]
   by_cases U:bI d[a]! d[j+1]! <0
   ·rw[ak U] at e
    rw[ak U]
    exact ⟨t,(bV e).trans h⟩
   ·rw[ai U] at e
    rw[ai U]
    exact ⟨_,bc e⟩
  ·rw[ai h1]
   exact ⟨false,bc (by simp (disch:=omega) only[wV,wU,aA,ai])⟩
theorem acA {a:Nat}: ∀(n i j:Nat) (d:Array XE),j+1-i≤n→1≤i→i≤d.size→a<d.size→j<d.size→d.size<1152921504606846976→
  ∃x z,Loop (wR CC a) ((i:Int),(j:Int),eA d)=some (x,(((partLoop ax a i j d).1:Nat):Int),z,eA (partLoop ax a i j d).2):=by
 intro n
 induction n with
 | zero=>
  intro i j d hn h1 U ha hj hs
  obtain ⟨t3,e3⟩:=Q3 (a:=a) ha hj hs _ i rfl U
  have g1:=scanUp_ge (fun x=>ax x d[a]!) d j i
  have g2:=scanDown_le (fun x=> !ax x d[a]!) d (scanUp (fun x=>ax x d[a]!) d j i) j
  obtain ⟨t4,e4⟩:=JO (a:=a) (i:=scanUp (fun x=>ax x d[a]!) d j i) ha (by omega) hs j hj
  rw[partLoop_eq,ak (by omega)]
  refine ⟨((scanUp (fun x=>ax x d[a]!) d j i:Nat):Int),true,bc ?_⟩
  simp only[wR,z6,un]
  rw[e3]
  simp only[Option.bind_some,un]
  rw[e4]
  simp (disch:=omega) only[Option.bind_some,un,mX,cond_true]
 | succ n ih=>
  intro i j d hn h1 U ha hj hs
  obtain ⟨t3,e3⟩:=Q3 (a:=a) ha hj hs _ i rfl U
  have g1:=scanUp_ge (fun x=>ax x d[a]!) d j i
  have g2:=scanDown_le (fun x=> !ax x d[a]!) d (scanUp (fun x=>ax x d[a]!) d j i) j
  obtain ⟨t4,e4⟩:=JO (a:=a) (i:=scanUp (fun x=>ax x d[a]!) d j i) ha (by omega) hs j hj
  rw[partLoop_eq]
  have f:wR CC a ((i:Int),(j:Int),eA d)=wR CC a ((i:Int),(j:Int),eA d):=rfl
  conv at f=>rhs;simp only[wR,z6,un];rw[e3];simp only[Option.bind_some,un];rw[e4];simp only[Option.bind_some,un]
  generalize gx:scanUp (fun x=>ax x d[a]!) d j i=i2 at*
  generalize fI:scanDown (fun x=> !ax x d[a]!) d i2 j=j2 at*
  by_cases h:i2>j2
  ·rw[ak h]
   refine ⟨(i2:Int),true,bc (f.trans ?_)⟩
   simp (disch:=omega) only[Option.bind_some,mX,cond_true]
  ·rw[ai h]
   obtain ⟨x,z,e⟩:=ih (i2+1) (j2-1) (swp d i2 j2) (by omega) (by omega) (by rw[size_swp];omega) (by rw[size_swp];omega) (by rw[size_swp];omega) (by rw[size_swp];omega)
   refine ⟨x,z,(bV (f.trans ?_)).trans e⟩
   simp (disch:=omega) only[aA,df,gB,ak,ai,wrap64,dw,fx,Int.toNat_natCast,Option.bind_some,fu,fw,XE.bw,XE.bx,XE.bz,XE.re,fv,gY,gm,gd,V.aV,V.toInt_int,cond_true,cond_false,jU]
   rfl
theorem acB (d:Array XE) (a b pivot:Nat):partition ax d a b pivot=
  if scanUp (fun x=>ax x (swp d a pivot)[a]!) (swp d a pivot) (b-1) (a+1)>scanDown (fun x=> !ax x (swp d a pivot)[a]!) (swp d a pivot) (scanUp (fun x=>ax x (swp d a pivot)[a]!) (swp d a pivot) (b-1) (a+1)) (b-1) then
   (scanDown (fun x=> !ax x (swp d a pivot)[a]!) (swp d a pivot) (scanUp (fun x=>ax x (swp d a pivot)[a]!) (swp d a pivot) (b-1) (a+1)) (b-1),true,swp (swp d a pivot) (scanDown (fun x=> !ax x (swp d a pivot)[a]!) (swp d a pivot) (scanUp (fun x=>ax x (swp d a pivot)[a]!) (swp d a pivot) (b-1) (a+1)) (b-1)) a)
  else
   ((partLoop ax a (scanUp (fun x=>ax x (swp d a pivot)[a]!) (swp d a pivot) (b-1) (a+1)+1) (scanDown (fun x=> !ax x (swp d a pivot)[a]!) (swp d a pivot) (scanUp (fun x=>ax x (swp d a pivot)[a]!) (swp d a pivot) (b-1) (a+1)) (b-1)-1) (swp (swp d a pivot) (scanUp (fun x=>ax x (swp d a pivot)[a]!) (swp d a pivot) (b-1) (a+1)) (scanDown (fun x=> !ax x (swp d a pivot)[a]!) (swp d a pivot) (scanUp (fun x=>ax x (swp d a pivot)[a]!) (swp d a pivot) (b-1) (a+1)) (b-1)))).1,false,
    swp (partLoop ax a (scanUp (fun x=>ax x (swp d a pivot)[a]!) (swp d a pivot) (b-1) (a+1)+1) (scanDown (fun x=> !ax x (swp d a pivot)[a]!) (swp d a pivot) (scanUp (fun x=>ax x (swp d a pivot)[a]!) (swp d a pivot) (b-1) (a+1)) (b-1)-1) (swp (swp d a pivot) (scanUp (fun x=>ax x (swp d a pivot)[a]!) (swp d a pivot) (b-1) (a+1)) (scanDown (fun x=> !ax x (swp d a pivot)[a]!) (swp d a pivot) (scanUp (fun x=>ax x (swp d a pivot)[a]!) (swp d a pivot) (b-1) (a+1)) (b-1)))).2
    (partLoop ax a (scanUp (fun x=>ax x (swp d a pivot)[a]!) (swp d a pivot) (b-1) (a+1)+1) (scanDown (fun x=> !ax x (swp d a pivot)[a]!) (swp d a pivot) (scanUp (fun x=>ax x (swp d a pivot)[a]!) (swp d a pivot) (b-1) (a+1)) (b-1)-1) (swp (swp d a pivot) (scanUp (fun x=>ax x (swp d a pivot)[a]!) (swp d a pivot) (b-1) (a+1)) (scanDown (fun x=> !ax x (swp d a pivot)[a]!) (swp d a pivot) (scanUp (fun x=>ax x (swp d a pivot)[a]!) (swp d a pivot) (b-1) (a+1)) (b-1)))).1 a):=rfl
theorem wY (d:Array XE) (i j:Nat):eA ((d.setIfInBounds i d[j]!).setIfInBounds j d[i]!)=eA (swp d i j):=rfl
theorem acC {a b pivot:Nat} {d:Array XE} (hp:pivot<b) (eM:a<b) (hb:b≤d.size) (hs:d.size<1152921504606846976):
  CC mR [.int .i64 (a:Int),.int .i64 (b:Int),.int .i64 (pivot:Int),.list aa (eA d)]=
   some [.int .i64 ((partition ax d a b pivot).1:Int),.bool (partition ax d a b pivot).2.1,.list aa (eA (partition ax d a b pivot).2.2)]:=by
 refine acf ?_
 unfold QW
 have z1:(swp d a pivot).size=d.size:=size_swp ..
 obtain ⟨t1,e1⟩:=acz (a:=a) (j:=b-1) (d:=swp d a pivot) (by omega) (by omega) (by omega) _ (a+1) rfl (by omega)
 have g1:=scanUp_ge (fun x=>ax x (swp d a pivot)[a]!) (swp d a pivot) (b-1) (a+1)
 have g2:=scanDown_le (fun x=> !ax x (swp d a pivot)[a]!) (swp d a pivot) (scanUp (fun x=>ax x (swp d a pivot)[a]!) (swp d a pivot) (b-1) (a+1)) (b-1)
 obtain ⟨t2,e2⟩:=Q4 (a:=a) (i:=scanUp (fun x=>ax x (swp d a pivot)[a]!) (swp d a pivot) (b-1) (a+1)) (d:=swp d a pivot) (by omega) (by omega) (by omega) (b-1) (by omega)
 have e0:=acB d a b pivot
 rw[jV (i:=pivot) (by omega),jW (by omega),jV (i:=a) (by omega),jW (by omega),jV (i:=a) (by omega),jW (by omega),Eo (i:=pivot) (by omega),Ep (by omega)]
 simp only[XE.bw,XE.bx,XE.bz,XE.re,Int.toNat_natCast,fv,wY]
 simp (disch:=omega) only[jU,dw,wrap64]
 rw[e1]
 simp only[Option.bind_some,un]
 rw[e2]
 simp only[Option.bind_some,un]
 generalize gx:scanUp (fun x=>ax x (swp d a pivot)[a]!) (swp d a pivot) (b-1) (a+1)=i2 at*
 generalize fI:scanDown (fun x=> !ax x (swp d a pivot)[a]!) (swp d a pivot) i2 (b-1)=j2 at*
 generalize swp d a pivot=d1 at*
 by_cases h:i2>j2
 ·rw[ak h] at e0
  rw[e0,aA,ak (by omega)]
  rw[jV (i:=a) (by omega)];(first|rw[jW (by omega)]|rw[qD (by omega)]);rw[jV (i:=j2) (by omega)];(first|rw[jW (by omega)]|rw[qD (by omega)]);rw[jV (i:=j2) (by omega)];(first|rw[jW (by omega)]|rw[qD (by omega)]);rw[Eo (i:=a) (by omega)];(first|rw[Ep (by omega)]|rw[JN (by omega)])
  simp only[XE.bw,XE.bx,XE.bz,XE.re,Int.toNat_natCast,fv,wY]
 ·rw[ai h] at e0
  rw[e0,aA,ai (by omega)]
  have z2:(swp d1 i2 j2).size=d1.size:=size_swp ..
  obtain ⟨x,z,e5⟩:=acA (a:=a) _ (i2+1) (j2-1) (swp d1 i2 j2) (bX _) (by omega) (by omega) (by omega) (by omega) (by omega)
  obtain ⟨q1,q2⟩:=acy (a:=a) _ (i2+1) (j2-1) (swp d1 i2 j2) (bX _)
  rw[jV (i:=j2) (by omega)];(first|rw[jW (by omega)]|rw[qD (by omega)]);rw[jV (i:=i2) (by omega)];(first|rw[jW (by omega)]|rw[qD (by omega)]);rw[jV (i:=i2) (by omega)];(first|rw[jW (by omega)]|rw[qD (by omega)]);rw[Eo (i:=j2) (by omega)];(first|rw[Ep (by omega)]|rw[JN (by omega)])
  simp only[XE.bw,XE.bx,XE.bz,XE.re,Int.toNat_natCast,fv,wY]
  simp (disch:=omega) only[jU,dw,wrap64]
  rw[e5]
  generalize partLoop ax a (i2+1) (j2-1) (swp d1 i2 j2)=r at*
  simp only[Option.bind_some,un]
  rw[jV (i:=a) (by omega)];(first|rw[jW (by omega)]|rw[qD (by omega)]);rw[jV (i:=r.1) (by omega)];(first|rw[jW (by omega)]|rw[qD (by omega)]);rw[jV (i:=r.1) (by omega)];(first|rw[jW (by omega)]|rw[qD (by omega)]);rw[Eo (i:=a) (by omega)];(first|rw[Ep (by omega)]|rw[JN (by omega)])
  simp only[XE.bw,XE.bx,XE.bz,XE.re,Int.toNat_natCast,fv,wY]
theorem acD {a:Nat}: ∀(n i j:Nat) (d:Array XE),j+1-i≤n→1≤i→i≤d.size→a<d.size→j<d.size→d.size<1152921504606846976→
  ∃x z,Loop (wW CC a) ((i:Int),(j:Int),eA d)=some ((((partEqLoop ax a i j d).1:Nat):Int),x,z,eA (partEqLoop ax a i j d).2):=by
 intro n
 induction n with
 | zero=>
  intro i j d hn h1 U ha hj hs
  obtain ⟨t3,e3⟩:=Q5 (a:=a) ha hj hs _ i rfl U
  have g1:=scanUp_ge (fun x=> !ax d[a]! x) d j i
  have g2:=scanDown_le (fun x=>ax d[a]! x) d (scanUp (fun x=> !ax d[a]! x) d j i) j
  obtain ⟨t4,e4⟩:=JP (a:=a) (i:=scanUp (fun x=> !ax d[a]! x) d j i) ha (by omega) hs j hj
  rw[partEqLoop_eq,ak (by omega)]
  refine ⟨((scanDown (fun x=>ax d[a]! x) d (scanUp (fun x=> !ax d[a]! x) d j i) j:Nat):Int),true,bc ?_⟩
  simp only[wW,Aa,un]
  rw[e3]
  simp only[Option.bind_some,un]
  rw[e4]
  simp (disch:=omega) only[Option.bind_some,un,mX,cond_true]
 | succ n ih=>
  intro i j d hn h1 U ha hj hs
  obtain ⟨t3,e3⟩:=Q5 (a:=a) ha hj hs _ i rfl U
  have g1:=scanUp_ge (fun x=> !ax d[a]! x) d j i
  have g2:=scanDown_le (fun x=>ax d[a]! x) d (scanUp (fun x=> !ax d[a]! x) d j i) j
  obtain ⟨t4,e4⟩:=JP (a:=a) (i:=scanUp (fun x=> !ax d[a]! x) d j i) ha (by omega) hs j hj
  rw[partEqLoop_eq]
  have f:wW CC a ((i:Int),(j:Int),eA d)=wW CC a ((i:Int),(j:Int),eA d):=rfl
  conv at f=>rhs;simp only[wW,Aa,un];rw[e3];simp only[Option.bind_some,un];rw[e4];simp only[Option.bind_some,un]
  generalize gx:scanUp (fun x=> !ax d[a]! x) d j i=i2 at*
  generalize fI:scanDown (fun x=>ax d[a]! x) d i2 j=j2 at*
  by_cases h:i2>j2
  ·rw[ak h]
   refine ⟨(j2:Int),true,bc (f.trans ?_)⟩
   simp (disch:=omega) only[Option.bind_some,mX,cond_true]
  ·rw[ai h]
   obtain ⟨x,z,e⟩:=ih (i2+1) (j2-1) (swp d i2 j2) (by omega) (by omega) (by rw[size_swp];omega) (by rw[size_swp];omega) (by rw[size_swp];omega) (by rw[size_swp];omega)
   refine ⟨x,z,(bV (f.trans ?_)).trans e⟩
   simp (disch:=omega) only[aA,df,gB,ak,ai,wrap64,dw,fx,Int.toNat_natCast,Option.bind_some,fu,fw,XE.bw,XE.bx,XE.bz,XE.re,fv,gY,gm,gd,V.aV,V.toInt_int,cond_true,cond_false,jU]
   rfl
theorem acE {a b pivot:Nat} {d:Array XE} (hp:pivot<b) (eM:a<b) (hb:b≤d.size) (hs:d.size<1152921504606846976):
  CC tG [.int .i64 (a:Int),.int .i64 (b:Int),.int .i64 (pivot:Int),.list aa (eA d)]=
   some [.int .i64 ((partitionEqual ax d a b pivot).1:Int),.list aa (eA (partitionEqual ax d a b pivot).2)]:=by
 refine acm ?_
 unfold QY
 have z1:(swp d a pivot).size=d.size:=size_swp ..
 obtain ⟨x,z,e⟩:=acD (a:=a) _ (a+1) (b-1) (swp d a pivot) (bX _) (by omega) (by omega) (by omega) (by omega) (by omega)
 simp (disch:=omega) only[aA,df,ak,fu,fw,Int.toNat_natCast,Option.bind_some,XE.bw,XE.bx,XE.bz,XE.re,fv,gY,gm,jU,dw,wrap64,wY]
 rw[e]
 rfl
theorem acF {a b j:Nat} {d:Array XE} (hb:b≤d.size) (hs:d.size<1152921504606846976): ∀(n i:Nat),b-i=n→1≤i→i≤b→
  ∃t,Loop (Ac CC a b j (eA d)) (i:Int)=some (((scanSorted ax d b i:Nat):Int),t):=by
 intro n
 induction n with
 | zero=>
  intro i hn h1 hi
  rw[Em,ai (by omega)]
  exact ⟨false,bc (by simp (disch:=omega) only[Ac,Ab,aA,ai])⟩
 | succ n ih=>
  intro i hn h1 hi
  obtain ⟨t,h⟩:=ih (i+1) (by omega) (by omega) (by omega)
  rw[Em,ak (by omega)]
  have e:Ac CC a b j (eA d) (i:Int)=if bI d[i]! d[i-1]! <0 then some (.inr ((i:Int),!decide (bI d[i]! d[i-1]! <0))) else some (.inl ((i+1:Nat):Int)):=by
   simp (disch:=omega) only[Ac,Ab,jU,aA,df,gB,ak,ai,wrap64,dw,fx,Int.toNat_natCast,Option.bind_some,fu,fw,XE.bw,XE.bx,XE.bz,XE.re,fv,gY,gm,gd,V.aV,V.toInt_int,cond_true,cond_false]
  by_cases U:bI d[i]! d[i-1]! <0
  ·rw[ak U] at e⊢
   exact ⟨_,bc e⟩
  ·rw[ai U] at e⊢
   exact ⟨t,(bV e).trans h⟩
theorem Q6: ∀(j:Nat) (d:Array XE),(shiftDown ax j d).size=d.size
 | 0,_=>rfl
 | j+1,d=>by
  rw[Q2]
  split
  ·rw[Q6 j,size_swp]
  ·rfl
theorem acG {b:Nat}: ∀(n j:Nat) (d:Array XE),b-j=n→(shiftUp ax b j d).size=d.size:=by
 intro n
 induction n with
 | zero=>intro j d h;rw[En,ai (by omega)]
 | succ n ih=>
  intro j d h
  rw[En,ak (by omega)]
  split
  ·rw[ih _ _ (by omega),size_swp]
  ·rfl
theorem Q7 {a b i k:Nat}: ∀(j:Nat) (d:Array XE),j<d.size→d.size<1152921504606846976→
  ∃t,Loop (Ae CC a b i k) ((j:Int),eA d)=some (t,eA (shiftDown ax j d))
 | 0,d,hj,hs=>⟨(0:Nat),bc (by
   simp (disch:=omega) only[Ae,Ad,un,aA,ai]
   rfl)⟩
 | j+1,d,hj,hs=>by
  obtain ⟨t,ih⟩:=Q7 (a:=a) (b:=b) (i:=i) (k:=k) j (swp d (j+1) j) (by rw[size_swp];omega) (by rw[size_swp];omega)
  rw[Q2]
  have e:Ae CC a b i k (((j+1:Nat):Int),eA d)=if bI d[j+1]! d[j]! <0 then some (.inl ((j:Int),eA (swp d (j+1) j))) else some (.inr (((j+1:Nat):Int),eA d)):=by
   simp (disch:=omega) only[Ae,Ad,un,aA,df,gB,ak,ai,wrap64,dw,fx,Int.toNat_natCast,Option.bind_some,fu,fw,XE.bw,XE.bx,XE.bz,XE.re,fv,gY,gm,gd,V.aV,V.toInt_int,cond_true,cond_false,tY]
   rfl
  by_cases U:bI d[j+1]! d[j]! <0
  ·rw[ak U] at e⊢
   exact ⟨t,(bV e).trans ih⟩
  ·rw[ai U] at e⊢
   exact ⟨_,bc e⟩
theorem acH {a b i k:Nat}: ∀(n j:Nat) (d:Array XE),b-j=n→1≤j→j≤b→b≤d.size→d.size<1152921504606846976→
  ∃t,Loop (Ag CC a b i k) ((j:Int),eA d)=some (t,eA (shiftUp ax b j d)):=by
 intro n
 induction n with
 | zero=>
  intro j d hn h1 hj hb hs
  rw[En,ai (by omega)]
  exact ⟨(j:Int),bc (by
   simp (disch:=omega) only[Ag,Af,un,aA,ai])⟩
 | succ n ih=>
  intro j d hn h1 hj hb hs
  obtain ⟨t,h⟩:=ih (j+1) (swp d j (j-1)) (by omega) (by omega) (by omega) (by rw[size_swp];omega) (by rw[size_swp];omega)
  rw[En,ak (by omega)]
  have e:Ag CC a b i k ((j:Int),eA d)=if bI d[j]! d[j-1]! <0 then some (.inl (((j+1:Nat):Int),eA (swp d j (j-1)))) else some (.inr ((j:Int),eA d)):=by
   simp (disch:=omega) only[Ag,Af,un,jU,aA,df,gB,ak,ai,wrap64,dw,fx,Int.toNat_natCast,Option.bind_some,fu,fw,XE.bw,XE.bx,XE.bz,XE.re,fv,gY,gm,gd,V.aV,V.toInt_int,cond_true,cond_false]
   rfl
  by_cases U:bI d[j]! d[j-1]! <0
  ·rw[ak U] at e⊢
   exact ⟨t,(bV e).trans h⟩
  ·rw[ai U] at e⊢
   exact ⟨_,bc e⟩
theorem acI {d:Array XE} {b:Nat}: ∀(n i:Nat),b-i=n→i≤b→i≤scanSorted ax d b i∧scanSorted ax d b i≤b:=by
 intro n
 induction n with
 | zero=>intro i hn hi;rw[Em,ai (by omega)];omega
 | succ n ih=>
  intro i hn hi
  rw[Em,ak (by omega)]
  obtain ⟨h1,U⟩:=ih (i+1) (by omega) (by omega)
  split<;>omega
theorem acJ {a b:Nat}: ∀(s i:Nat) (d:Array XE),s≤5→a<i→i≤b→b≤d.size→d.size<1152921504606846976→
  (Loop (rU CC a b) ((i:Int),((5-s:Nat):Int),eA d)=some (.inl ((partialIns ax a b s i d).2,eA (partialIns ax a b s i d).1)))∨
  (∃x y z,(partialIns ax a b s i d).2=false∧Loop (rU CC a b) ((i:Int),((5-s:Nat):Int),eA d)=some (.inr (x,y,z,eA (partialIns ax a b s i d).1))):=by
 intro s
 induction s with
 | zero=>
  intro i d hs5 hi JQ hb hs
  refine .inr ⟨(i:Int),((5:Nat):Int),false,rfl,bc ?_⟩
  simp (disch:=omega) only[rU,Ah,un,rR,cond_false]
  rfl
 | succ s ih=>
  intro i d hs5 hi JQ hb hs
  obtain ⟨t1,e1⟩:=acF (a:=a) (j:=5-(s+1)) hb hs _ i rfl (by omega) JQ
  obtain ⟨q1,q2⟩:=acI (d:=d) _ i rfl JQ
  rw[partialIns_succ]
  have f:rU CC a b ((i:Int),((5-(s+1):Nat):Int),eA d)=rU CC a b ((i:Int),((5-(s+1):Nat):Int),eA d):=rfl
  conv at f=>rhs;simp only[rU,Ah,un];rw[aA,ak (by omega),e1];simp only[Option.bind_some,un]
  generalize scanSorted ax d b i=k at*
  by_cases h1:k=b
  ·rw[ak h1]
   left
   refine bc (f.trans ?_)
   rw[e7,ak (by omega)]
  ·rw[ai h1]
   by_cases U:b-a<50
   ·rw[ak U]
    left
    refine bc (f.trans ?_)
    rw[e7,ai (by omega),wrap64 (by omega) (by omega),aA,ak (by omega)]
   ·rw[ai U]
    have z1:(swp d k (k-1)).size=d.size:=size_swp ..
    have z2:(fixDown ax a k (swp d k (k-1))).size=d.size:=by
     unfold fixDown
     split
     ·rw[Q6,z1]
     ·exact z1
    have z3:(fixUp ax b k (fixDown ax a k (swp d k (k-1)))).size=d.size:=by
     unfold fixUp
     split
     ·rw[acG _ _ _ rfl,z2]
     ·exact z2
    obtain ⟨t2,e2⟩:=Q7 (a:=a) (b:=b) (i:=k) (k:=5-(s+1)) (k-1) (swp d k (k-1)) (by omega) (by omega)
    obtain ⟨t4,e4⟩:=acH (a:=a) (b:=b) (i:=k) (k:=5-(s+1)) _ (k+1) (fixDown ax a k (swp d k (k-1))) rfl (by omega) (by omega) (by omega) (by omega)
    have e5:rU CC a b ((i:Int),((5-(s+1):Nat):Int),eA d)=some (.inl ((k:Int),((5-s:Nat):Int),eA (fixUp ax b k (fixDown ax a k (swp d k (k-1)))))):=by
     refine f.trans ?_
     rw[e7,ai (by omega),wrap64 (by omega) (by omega),aA,ai (by omega)]
     simp (disch:=omega) only[aA,df,ak,fu,fw,Int.toNat_natCast,Option.bind_some,XE.bw,XE.bx,XE.bz,XE.re,fv,gY,gm,jU,dw,lZ,wrap64,wY,El]
     rw[show 5-(s+1)+1=5-s by omega]
     unfold fixDown at e4⊢
     unfold fixUp
     have c1:(((k-a:Nat):Int)≥2)=(k-a≥2):=propext (by omega)
     have c2:(((b-k:Nat):Int)≥2)=(b-k≥2):=propext (by omega)
     simp only[c1,c2]
     by_cases g1:k-a≥2
     ·by_cases g2:b-k≥2
      ·simp only[g1,g2,dj,e2,Option.bind_some,un] at e4⊢
       rw[e4]
       rfl
      ·simp only[g1,g2,dj,gk,e2,Option.bind_some,un]
     ·by_cases g2:b-k≥2
      ·simp only[g1,g2,dj,gk] at e4⊢
       rw[e4]
       rfl
      ·exact absurd (show b-k≥2 by omega) g2
    rw[bV e5]
    exact ih k _ (by omega) (by omega) (by omega) (by omega) (by omega)
theorem Q8 {a b:Nat} {d:Array XE} (eM:a<b) (hb:b≤d.size) (hs:d.size<1152921504606846976):
  CC DG [.int .i64 (a:Int),.int .i64 (b:Int),.list aa (eA d)]=
   some [.bool (partialInsertionSort ax d a b).2,.list aa (eA (partialInsertionSort ax d a b).1)]:=by
 refine acx ?_
 unfold Q1
 simp (disch:=omega) only[dw,wrap64]
 rcases acJ (a:=a) (b:=b) 5 (a+1) d (bX _) (by omega) (by omega) hb hs with h|⟨x,y,z,h0,h⟩
 ·rw[show ((5-5:Nat):Int)=0 from rfl] at h
  rw[h]
  rfl
 ·rw[show ((5-5:Nat):Int)=0 from rfl] at h
  rw[h]
  unfold partialInsertionSort
  rw[h0]
  rfl
end Go.AM.SX
set_option maxRecDepth 100000
namespace Go.AM
open Go.Proofs
noncomputable abbrev rV:Code:=cP Try.prog (az.aZ 114)
noncomputable def Aj (C:ag) (data:List V) (i j k':Int) (t36:Bool) (gD:Int) {β:Type} (kr:(Int × Int × Int × Int)→Option β):Option β:=
 bif t36 then
  (C vX [.list aa data,.int .i64 i,.int .i64 gD]).bind fun r1=>
  (C vX [.list aa data,.int .i64 j,.int .i64 ((V.nth (r1.drop 1) 0).toInt)]).bind fun r2=>
  (C vX [.list aa data,.int .i64 k',.int .i64 ((V.nth (r2.drop 1) 0).toInt)]).bind fun r3=>
  kr ((V.nth r1 0).toInt,(V.nth r2 0).toInt,(V.nth r3 0).toInt,(V.nth (r3.drop 1) 0).toInt)
 else
  kr (i,j,k',gD)
noncomputable def Ak (C:ag) (data:List V) (l i j k':Int) (t34:Bool) (gD:Int) {β:Type} (kr:(Int × Int)→Option β):Option β:=
 bif t34 then
  Aj C data i j k' (decide ((l:Int)≥50)) gD (un fun (eQ:Int)=>un fun (j_5:Int)=>un fun (k_6:Int) (acK:Int)=>
   (C zo [.list aa data,.int .i64 eQ,.int .i64 j_5,.int .i64 k_6,.int .i64 acK]).bind fun r8=>
   kr ((V.nth r8 0).toInt,(V.nth (r8.drop 1) 0).toInt))
 else
  kr (j,gD)
noncomputable def Q9 (C:ag):cC:=fun β n ds k=>
 bif Nat.beq n 591 then iz II [[1,0,0,0,0]] (@Aj C) ds k else
 bif Nat.beq n 559 then iz IJ [[0,0]] (@Ak C) ds k else
 none
abbrev Ra (C:ag) (b:cx):Prop:=cy Try.prog az C (Q9 C) 114 (cT Try.prog (az.aZ 114)) (az.sin 114).aY.length b
theorem acL (C:ag):Ra C (.cond 36 (av [1,1,1,1,1,1,0,1,0,0,1,0] rV) (av [1,1,1,1,1,1,0,1,0,0,1,1] rV)):=
 iQ II [[1,0,0,0,0]] (@Aj C) (by kernel_rfl) (bf (bs:=[]) (by kernel_rfl) aw) (bf (bs:=[]) (by kernel_rfl) aw) (fun ds=>by kernel_rfl) (fun i β k=>by kernel_rfl) (fun β ds k=>by kernel_rfl)
theorem acM (C:ag):Ra C (.cond 34 (av [1,1,1,1,1,1,0,1,0] rV) (av [1,1,1,1,1,1,0,1,1] rV)):=
 iQ IJ [[0,0]] (@Ak C) (by kernel_rfl) (bf (bs:=[.cond 36 (av [1,1,1,1,1,1,0,1,0,0,1,0] rV) (av [1,1,1,1,1,1,0,1,0,0,1,1] rV)]) (by kernel_rfl) (bG (acL C) aw)) (bf (bs:=[]) (by kernel_rfl) aw) (fun ds=>by kernel_rfl) (fun i β k=>by kernel_rfl) (fun β ds k=>by kernel_rfl)
noncomputable def JR (C:ag) (data:List V) (a b':Int):Option (List V):=
 Ak C data (IntKind.wrap .i64 (b'-a)) (IntKind.wrap .i64 (a+(IntKind.wrap .i64 (1*(IntKind.wrap .i64 (Int.tdiv (IntKind.wrap .i64 (b'-a)) 4)))))) (IntKind.wrap .i64 (a+(IntKind.wrap .i64 (2*(IntKind.wrap .i64 (Int.tdiv (IntKind.wrap .i64 (b'-a)) 4)))))) (IntKind.wrap .i64 (a+(IntKind.wrap .i64 (3*(IntKind.wrap .i64 (Int.tdiv (IntKind.wrap .i64 (b'-a)) 4)))))) (decide (((IntKind.wrap .i64 (b'-a)):Int)≥8)) 0 (un fun (JS:Int) (Rb:Int)=>
  bif (Rb:Int)==0 then
   some [.int .i64 JS,.int .i64 1]
  else
   bif (Rb:Int)==12 then
   some [.int .i64 JS,.int .i64 2]
   else
   some [.int .i64 JS,.int .i64 0])
theorem Rc {data:List V} {a b':Int} {r:Option (List V)} (h:JR CC data a b'=r):CC zm [.list aa data,.int .i64 a,.int .i64 b']=r:=
 ba (key:=114) (L:=Q9 CC) (bs:=[.cond 34 (av [1,1,1,1,1,1,0,1,0] rV) (av [1,1,1,1,1,1,0,1,1] rV)]) (by kernel_rfl) (bG (acM CC) aw) (a8 (by kernel_rfl) h)
noncomputable def Re (C:ag) (data:List V) (a b' c gD:Int):Option (List V):=
 (C vY [.list aa data,.int .i64 a,.int .i64 b',.int .i64 gD]).bind fun r1=>
 (C vY [.list aa data,.int .i64 ((V.nth (r1.drop 1) 0).toInt),.int .i64 c,.int .i64 ((V.nth (r1.drop 2) 0).toInt)]).bind fun r2=>
 (C vY [.list aa data,.int .i64 ((V.nth r1 0).toInt),.int .i64 ((V.nth r2 0).toInt),.int .i64 ((V.nth (r2.drop 2) 0).toInt)]).bind fun r3=>
 some [.int .i64 ((V.nth (r3.drop 1) 0).toInt),.int .i64 ((V.nth (r3.drop 2) 0).toInt)]
theorem acN {data:List V} {a b' c gD:Int} {r:Option (List V)} (h:Re CC data a b' c gD=r):CC zo [.list aa data,.int .i64 a,.int .i64 b',.int .i64 c,.int .i64 gD]=r:=
 ba (key:=125) (L:=cj) (bs:=[]) (by kernel_rfl) aw (a8 (by kernel_rfl) h)
noncomputable def JT (C:ag) (data:List V) (a b' gD:Int):Option (List V):=
 (idx data b').bind fun x1=>
 (idx data a).bind fun x2=>
 (C aX [.int .i64 ((x1.cell 0).toInt),.int .i64 ((x1.cell 1).toInt),.list aa ((x1.cell 2).toList),.int .i64 ((x2.cell 0).toInt),.int .i64 ((x2.cell 1).toInt),.list aa ((x2.cell 2).toList)]).bind fun r3=>
 bif decide ((((V.nth r3 0).toInt):Int)<0) then
  some [.int .i64 b',.int .i64 a,.int .i64 (IntKind.wrap .i64 (gD+1))]
 else
  some [.int .i64 a,.int .i64 b',.int .i64 gD]
theorem Rf {data:List V} {a b' gD:Int} {r:Option (List V)} (h:JT CC data a b' gD=r):CC vY [.list aa data,.int .i64 a,.int .i64 b',.int .i64 gD]=r:=
 ba (key:=126) (L:=cj) (bs:=[]) (by kernel_rfl) aw (a8 (by kernel_rfl) h)
noncomputable def Rg (C:ag) (data:List V) (a gD:Int):Option (List V):=
 (C zo [.list aa data,.int .i64 (IntKind.wrap .i64 (a-1)),.int .i64 a,.int .i64 (IntKind.wrap .i64 (a+1)),.int .i64 gD]).bind fun r1=>
 some [.int .i64 ((V.nth r1 0).toInt),.int .i64 ((V.nth (r1.drop 1) 0).toInt)]
theorem acO {data:List V} {a gD:Int} {r:Option (List V)} (h:Rg CC data a gD=r):CC vX [.list aa data,.int .i64 a,.int .i64 gD]=r:=
 ba (key:=124) (L:=cj) (bs:=[]) (by kernel_rfl) aw (a8 (by kernel_rfl) h)
noncomputable abbrev wZ:Code:=cP Try.prog (az.aZ 113)
noncomputable def Er (C:ag) (a length w4 jr other:Int) (t45:Bool) (aj:List V) (Al:Int) {β:Type} (kr:(Int)→Option β):Option β:=
 bif t45 then
  kr (IntKind.wrap .i64 (other-length))
 else
  kr other
noncomputable def Am (C:ag) (a length w4 jr:Int) (aj:List V) (Al:Int) {β:Type} (kn:(Int × (List V) × Int)→Option β) (kr:(Int × Bool × (List V) × Int)→Option β):Option β:=
 bif decide ((jr:Int)≤(IntKind.wrap .i64 ((IntKind.wrap .i64 (a+(IntKind.wrap .i64 (2*(IntKind.wrap .i64 (Int.tdiv length 4))))))+1))) then
  (C DJ [.int .u64 Al]).bind fun r2=>
  Er C a length w4 jr (IntKind.wrap .i64 (IntKind.wrap .u64 ((BitVec.ofInt (IntKind.bits .u64) ((V.nth r2 0).toInt)&&&BitVec.ofInt (IntKind.bits .u64) (IntKind.wrap .u64 (w4-1))).toNat))) (decide (((IntKind.wrap .i64 (IntKind.wrap .u64 ((BitVec.ofInt (IntKind.bits .u64) ((V.nth r2 0).toInt)&&&BitVec.ofInt (IntKind.bits .u64) (IntKind.wrap .u64 (w4-1))).toNat))):Int)≥length)) aj ((V.nth (r2.drop 1) 0).toInt) (fun (uf:Int)=>
   bif (decide (0≤(IntKind.wrap .i64 (a+uf))))&&(decide ((IntKind.wrap .i64 (a+uf))<(aj.length:Int))) then
   (aj[(IntKind.wrap .i64 (a+uf):Int).toNat]?).bind fun x4=>
   bif (decide (0≤jr))&&(decide (jr<(aj.length:Int))) then
    (aj[(jr:Int).toNat]?).bind fun x5=>
    bif (decide (0≤jr))&&(decide (jr<(aj.length:Int))) then
    (aj[(jr:Int).toNat]?).bind fun x6=>
    bif (decide (0≤(IntKind.wrap .i64 (a+uf))))&&(decide ((IntKind.wrap .i64 (a+uf))<((aj.set ((jr:Int).toNat) (.agg [.int .i64 ((x4.cell 0).toInt),.int .i64 ((x4.cell 1).toInt),.list aa ((x4.cell 2).toList)])).length:Int))) then
     ((aj.set ((jr:Int).toNat) (.agg [.int .i64 ((x4.cell 0).toInt),.int .i64 ((x4.cell 1).toInt),.list aa ((x4.cell 2).toList)]))[(IntKind.wrap .i64 (a+uf):Int).toNat]?).bind fun x7=>
     kn (IntKind.wrap .i64 (jr+1),(aj.set ((jr:Int).toNat) (.agg [.int .i64 ((x4.cell 0).toInt),.int .i64 ((x4.cell 1).toInt),.list aa ((x4.cell 2).toList)])).set ((IntKind.wrap .i64 (a+uf):Int).toNat) (.agg [.int .i64 ((x5.cell 0).toInt),.int .i64 ((x5.cell 1).toInt),.list aa ((x5.cell 2).toList)]),(V.nth (r2.drop 1) 0).toInt)
    else none
    else none
   else none
   else none)
 else
  kr (jr,decide ((jr:Int)≤(IntKind.wrap .i64 ((IntKind.wrap .i64 (a+(IntKind.wrap .i64 (2*(IntKind.wrap .i64 (Int.tdiv length 4))))))+1))),aj,Al)
noncomputable def Et (C:ag) (a length w4:Int):(Int × (List V) × Int)→Option ((Int × (List V) × Int) ⊕ (Int × Bool × (List V) × Int)):=un fun jr=>un fun aj Al=>Am C a length w4 jr aj Al (fun y=>some (.inl y)) (fun r=>some (.inr r))
noncomputable def Rh (C:ag):cC:=fun β n ds k=>
 bif Nat.beq n 735 then iz IG [[1,2,3,4,0,7,8]] (@Er C) ds k else
 bif Nat.beq n 81 then ch IH [false,false,false,true,true,true] [[1,2,3,0,0,0,0]] (@Am C) ds k else
 none
abbrev Ri (C:ag) (b:cx):Prop:=cy Try.prog az C (Rh C) 113 (cT Try.prog (az.aZ 113)) (az.sin 113).aY.length b
theorem acP (C:ag):Ri C (.cond 45 (av [1,1,0,1,1,1,0,0,1,0,0,1,0,1,0] wZ) (av [1,1,0,1,1,1,0,0,1,0,0,1,0,1,1] wZ)):=
 iQ IG [[1,2,3,4,0,7,8]] (@Er C) (by kernel_rfl) (bf (bs:=[]) (by kernel_rfl) aw) (bf (bs:=[]) (by kernel_rfl) aw) (fun ds=>by kernel_rfl) (fun i β k=>by kernel_rfl) (fun β ds k=>by kernel_rfl)
theorem acQ (C:ag):Ri C (.loop (av [1,1,0,1,1,1,0,0] wZ)):=
 ct IH [false,false,false,true,true,true] [[1,2,3,0,0,0,0]] (@Am C) (by kernel_rfl) (bf (bs:=[.cond 45 (av [1,1,0,1,1,1,0,0,1,0,0,1,0,1,0] wZ) (av [1,1,0,1,1,1,0,0,1,0,0,1,0,1,1] wZ)]) (by kernel_rfl) (bG (acP C) aw)) (fun ds=>by kernel_rfl) (fun i x=>by kernel_rfl) (fun i x β k=>by kernel_rfl) (fun β ds k=>by kernel_rfl)
noncomputable def Rj (C:ag) (a b':Int) (aj:List V):Option (List V):=
 bif decide (((IntKind.wrap .i64 (b'-a)):Int)≥8) then
  (C DI [.int .i64 (IntKind.wrap .i64 (b'-a))]).bind fun r1=>
  (Loop (Et C a (IntKind.wrap .i64 (b'-a)) ((V.nth r1 0).toInt)) (IntKind.wrap .i64 ((IntKind.wrap .i64 (a+(IntKind.wrap .i64 (2*(IntKind.wrap .i64 (Int.tdiv (IntKind.wrap .i64 (b'-a)) 4))))))-1),aj,IntKind.wrap .u64 (IntKind.wrap .i64 (b'-a)))).bind (un fun (ahv:Int)=>un fun (rL:Bool)=>un fun (oh:List V) (ahw:Int)=>
   some [.list aa oh])
 else
  some [.list aa aj]
theorem acR {a b':Int} {aj:List V} {r:Option (List V)} (h:Rj CC a b' aj=r):CC DE [.int .i64 a,.int .i64 b',.list aa aj]=r:=
 ba (key:=113) (L:=Rh CC) (bs:=[.loop (av [1,1,0,1,1,1,0,0] wZ)]) (by kernel_rfl) (bG (acQ CC) aw) (a8 (by kernel_rfl) h)
noncomputable def Rk (C:ag) (iC:Int):Option (List V):=
 some [.int .u64 (IntKind.wrap .u64 ((BitVec.ofInt (IntKind.bits .u64) (IntKind.wrap .u64 ((BitVec.ofInt (IntKind.bits .u64) (IntKind.wrap .u64 ((BitVec.ofInt (IntKind.bits .u64) iC ^^^ BitVec.ofInt (IntKind.bits .u64) (IntKind.wrap .u64 (iC*2^(min (13:Int).toNat (IntKind.bits .u64))))).toNat)) ^^^ BitVec.ofInt (IntKind.bits .u64) (Int.fdiv (IntKind.wrap .u64 ((BitVec.ofInt (IntKind.bits .u64) iC ^^^ BitVec.ofInt (IntKind.bits .u64) (IntKind.wrap .u64 (iC*2^(min (13:Int).toNat (IntKind.bits .u64))))).toNat)) (2^(min (7:Int).toNat (IntKind.bits .u64))))).toNat)) ^^^ BitVec.ofInt (IntKind.bits .u64) (IntKind.wrap .u64 ((IntKind.wrap .u64 ((BitVec.ofInt (IntKind.bits .u64) (IntKind.wrap .u64 ((BitVec.ofInt (IntKind.bits .u64) iC ^^^ BitVec.ofInt (IntKind.bits .u64) (IntKind.wrap .u64 (iC*2^(min (13:Int).toNat (IntKind.bits .u64))))).toNat)) ^^^ BitVec.ofInt (IntKind.bits .u64) (Int.fdiv (IntKind.wrap .u64 ((BitVec.ofInt (IntKind.bits .u64) iC ^^^ BitVec.ofInt (IntKind.bits .u64) (IntKind.wrap .u64 (iC*2^(min (13:Int).toNat (IntKind.bits .u64))))).toNat)) (2^(min (7:Int).toNat (IntKind.bits .u64))))).toNat))*2^(min (17:Int).toNat (IntKind.bits .u64))))).toNat)),.int .u64 (IntKind.wrap .u64 ((BitVec.ofInt (IntKind.bits .u64) (IntKind.wrap .u64 ((BitVec.ofInt (IntKind.bits .u64) (IntKind.wrap .u64 ((BitVec.ofInt (IntKind.bits .u64) iC ^^^ BitVec.ofInt (IntKind.bits .u64) (IntKind.wrap .u64 (iC*2^(min (13:Int).toNat (IntKind.bits .u64))))).toNat)) ^^^ BitVec.ofInt (IntKind.bits .u64) (Int.fdiv (IntKind.wrap .u64 ((BitVec.ofInt (IntKind.bits .u64) iC ^^^ BitVec.ofInt (IntKind.bits .u64) (IntKind.wrap .u64 (iC*2^(min (13:Int).toNat (IntKind.bits .u64))))).toNat)) (2^(min (7:Int).toNat (IntKind.bits .u64))))).toNat)) ^^^ BitVec.ofInt (IntKind.bits .u64) (IntKind.wrap .u64 ((IntKind.wrap .u64 ((BitVec.ofInt (IntKind.bits .u64) (IntKind.wrap .u64 ((BitVec.ofInt (IntKind.bits .u64) iC ^^^ BitVec.ofInt (IntKind.bits .u64) (IntKind.wrap .u64 (iC*2^(min (13:Int).toNat (IntKind.bits .u64))))).toNat)) ^^^ BitVec.ofInt (IntKind.bits .u64) (Int.fdiv (IntKind.wrap .u64 ((BitVec.ofInt (IntKind.bits .u64) iC ^^^ BitVec.ofInt (IntKind.bits .u64) (IntKind.wrap .u64 (iC*2^(min (13:Int).toNat (IntKind.bits .u64))))).toNat)) (2^(min (7:Int).toNat (IntKind.bits .u64))))).toNat))*2^(min (17:Int).toNat (IntKind.bits .u64))))).toNat))]
theorem acS {iC:Int} {r:Option (List V)} (h:Rk CC iC=r):CC DJ [.int .u64 iC]=r:=
 ba (key:=123) (L:=cj) (bs:=[]) (by kernel_rfl) aw (a8 (by kernel_rfl) h)
noncomputable def Rl (C:ag) (length:Int):Option (List V):=
 (C zj [.int .u64 (IntKind.wrap .u64 length)]).bind fun r1=>
 bif decide (0≤((V.nth r1 0).toInt)) then
  some [.int .u64 (IntKind.wrap .u64 (1*2^(min ((V.nth r1 0).toInt).toNat (IntKind.bits .u64))))]
 else none
theorem acT {length:Int} {r:Option (List V)} (h:Rl CC length=r):CC DI [.int .i64 length]=r:=
 ba (key:=122) (L:=cj) (bs:=[]) (by kernel_rfl) aw (a8 (by kernel_rfl) h)
noncomputable def Rm (C:ag) (x:Int):Option (List V):=
 (C DH [.int .u64 x]).bind fun r1=>
 some [.int .i64 ((V.nth r1 0).toInt)]
theorem acU {x:Int} {r:Option (List V)} (h:Rm CC x=r):CC zj [.int .u64 x]=r:=
 ba (key:=110) (L:=cj) (bs:=[]) (by kernel_rfl) aw (a8 (by kernel_rfl) h)
noncomputable abbrev rW:Code:=cP Try.prog (az.aZ 120)
noncomputable def ug (C:ag) (x n:Int) (t4:Bool) {β:Type} (kr:(Int × Int)→Option β):Option β:=
 bif t4 then
  kr (Int.fdiv x (2^(min (32:Int).toNat (IntKind.bits .u64))),32)
 else
  kr (x,n)
noncomputable def uh (C:ag) (x n:Int) (t8:Bool) {β:Type} (kr:(Int × Int)→Option β):Option β:=
 bif t8 then
  kr (Int.fdiv x (2^(min (16:Int).toNat (IntKind.bits .u64))),IntKind.wrap .i64 (n+16))
 else
  kr (x,n)
noncomputable def Rn (C:ag):cC:=fun β n ds k=>
 bif Nat.beq n 79 then iz I0 [[0,0]] (@ug C) ds k else
 bif Nat.beq n 143 then iz I1 [[0,0]] (@uh C) ds k else
 none
abbrev Ro (C:ag) (b:cx):Prop:=cy Try.prog az C (Rn C) 120 (cT Try.prog (az.aZ 120)) (az.sin 120).aY.length b
theorem acV (C:ag):Ro C (.cond 4 (av [1,0,1,0] rW) (av [1,0,1,1] rW)):=
 iQ I0 [[0,0]] (@ug C) (by kernel_rfl) (bf (bs:=[]) (by kernel_rfl) aw) (bf (bs:=[]) (by kernel_rfl) aw) (fun ds=>by kernel_rfl) (fun i β k=>by kernel_rfl) (fun β ds k=>by kernel_rfl)
theorem acW (C:ag):Ro C (.cond 8 (av [1,1,0,1,0] rW) (av [1,1,0,1,1] rW)):=
 iQ I1 [[0,0]] (@uh C) (by kernel_rfl) (bf (bs:=[]) (by kernel_rfl) aw) (bf (bs:=[]) (by kernel_rfl) aw) (fun ds=>by kernel_rfl) (fun i β k=>by kernel_rfl) (fun β ds k=>by kernel_rfl)
noncomputable def acX (C:ag) (x:Int):Option (List V):=
 ug C x 0 (decide ((x:Int)≥4294967296)) (un fun (rX:Int) (An:Int)=>
  uh C rX An (decide ((rX:Int)≥65536)) (un fun (Ao:Int) (Rp:Int)=>
   bif decide ((Ao:Int)≥256) then
    (bif decide (0≤(IntKind.wrap .u8 (Int.fdiv Ao (2^(min (8:Int).toNat (IntKind.bits .u64)))))) then (([0,1,2,2,3,3,3,3,4,4,4,4,4,4,4,4,5,5,5,5,5,5,5,5,5,5,5,5,5,5,5,5,6,6,6,6,6,6,6,6,6,6,6,6,6,6,6,6,6,6,6,6,6,6,6,6,6,6,6,6,6,6,6,6,7,7,7,7,7,7,7,7,7,7,7,7,7,7,7,7,7,7,7,7,7,7,7,7,7,7,7,7,7,7,7,7,7,7,7,7,7,7,7,7,7,7,7,7,7,7,7,7,7,7,7,7,7,7,7,7,7,7,7,7,7,7,7,7,8,8,8,8,8,8,8,8,8,8,8,8,8,8,8,8,8,8,8,8,8,8,8,8,8,8,8,8,8,8,8,8,8,8,8,8,8,8,8,8,8,8,8,8,8,8,8,8,8,8,8,8,8,8,8,8,8,8,8,8,8,8,8,8,8,8,8,8,8,8,8,8,8,8,8,8,8,8,8,8,8,8,8,8,8,8,8,8,8,8,8,8,8,8,8,8,8,8,8,8,8,8,8,8,8,8,8,8,8,8,8,8,8,8,8,8,8,8,8,8,8,8,8,8,8,8,8,8]:List UInt8)[(IntKind.wrap .u8 (Int.fdiv Ao (2^(min (8:Int).toNat (IntKind.bits .u64)))):Int).toNat]?).map fun b=>V.int .u8 b.toNat else none).bind fun x5=>
    some [.int .i64 (IntKind.wrap .i64 ((IntKind.wrap .i64 (Rp+8))+(IntKind.wrap .i64 x5.toInt)))]
   else
    (bif decide (0≤(IntKind.wrap .u8 Ao)) then (([0,1,2,2,3,3,3,3,4,4,4,4,4,4,4,4,5,5,5,5,5,5,5,5,5,5,5,5,5,5,5,5,6,6,6,6,6,6,6,6,6,6,6,6,6,6,6,6,6,6,6,6,6,6,6,6,6,6,6,6,6,6,6,6,7,7,7,7,7,7,7,7,7,7,7,7,7,7,7,7,7,7,7,7,7,7,7,7,7,7,7,7,7,7,7,7,7,7,7,7,7,7,7,7,7,7,7,7,7,7,7,7,7,7,7,7,7,7,7,7,7,7,7,7,7,7,7,7,8,8,8,8,8,8,8,8,8,8,8,8,8,8,8,8,8,8,8,8,8,8,8,8,8,8,8,8,8,8,8,8,8,8,8,8,8,8,8,8,8,8,8,8,8,8,8,8,8,8,8,8,8,8,8,8,8,8,8,8,8,8,8,8,8,8,8,8,8,8,8,8,8,8,8,8,8,8,8,8,8,8,8,8,8,8,8,8,8,8,8,8,8,8,8,8,8,8,8,8,8,8,8,8,8,8,8,8,8,8,8,8,8,8,8,8,8,8,8,8,8,8,8,8,8,8,8,8]:List UInt8)[(IntKind.wrap .u8 Ao:Int).toNat]?).map fun b=>V.int .u8 b.toNat else none).bind fun x6=>
    some [.int .i64 (IntKind.wrap .i64 (Rp+(IntKind.wrap .i64 x6.toInt)))]))
theorem Rq {x:Int} {r:Option (List V)} (h:acX CC x=r):CC DH [.int .u64 x]=r:=
 ba (key:=120) (L:=Rn CC) (bs:=[.cond 4 (av [1,0,1,0] rW) (av [1,0,1,1] rW),.cond 8 (av [1,1,0,1,0] rW) (av [1,1,0,1,1] rW)]) (by kernel_rfl) (bG (acV CC) (bG (acW CC) aw)) (a8 (by kernel_rfl) h)
noncomputable abbrev ll:Code:=cP Try.prog (az.aZ 109)
noncomputable def w5 (C:ag) (a b' iU:Int) (ek eI:Bool) (length:Int) (t39:Bool) (aj:List V) {β:Type} (kr:(Int × (List V))→Option β):Option β:=
 bif t39 then
  (C DE [.int .i64 a,.int .i64 b',.list aa aj]).bind fun r3=>
  kr (IntKind.wrap .i64 (iU-1),(V.nth r3 0).toList)
 else
  kr (iU,aj)
noncomputable def w6 (C:ag) (a b' iU:Int) (ek eI:Bool) (length pivot hint:Int) (t56:Bool) (aj:List V) {β:Type} (kr:(Int × Int × (List V))→Option β):Option β:=
 bif t56 then
  (C DF [.int .i64 a,.int .i64 b',.list aa aj]).bind fun r7=>
  kr (IntKind.wrap .i64 ((IntKind.wrap .i64 (b'-1))-(IntKind.wrap .i64 (pivot-a))),1,(V.nth r7 0).toList)
 else
  kr (pivot,hint,aj)
noncomputable def l9 (C:ag) (a b' iU:Int) (ek eI:Bool) (length pivot:Int) (t75:Bool) (aj:List V) {β:Type} (kr:((Bool × (List V)) ⊕ (List V))→Option β):Option β:=
 bif t75 then
  (C DG [.int .i64 a,.int .i64 b',.list aa aj]).bind fun eJ=>
  bif (V.nth eJ 0).toBool then
  kr (.inl ((V.nth eJ 0).toBool,(V.nth (eJ.drop 1) 0).toList))
  else
  kr (.inr ((V.nth (eJ.drop 1) 0).toList))
 else
  kr (.inr aj)
noncomputable def pf (C:ag) (a b' iU:Int) (ek eI:Bool) (aj:List V) {β:Type} (kn:(Int × Int × Int × Bool × Bool × (List V))→Option β) (kr:(List V)→Option β):Option β:=
 bif decide (((IntKind.wrap .i64 (b'-a)):Int)≤12) then
  (C zk [.int .i64 a,.int .i64 b',.list aa aj]).bind fun r1=>
  kr ((V.nth r1 0).toList)
 else
  bif (iU:Int)==0 then
  (C zl [.int .i64 a,.int .i64 b',.list aa aj]).bind fun r2=>
  kr ((V.nth r2 0).toList)
  else
  w5 C a b' iU ek eI (IntKind.wrap .i64 (b'-a)) (!ek) aj (un fun (cr:Int) (Ap:List V)=>
   (C zm [.list aa Ap,.int .i64 a,.int .i64 b']).bind fun r6=>
   w6 C a b' cr ek eI (IntKind.wrap .i64 (b'-a)) ((V.nth r6 0).toInt) ((V.nth (r6.drop 1) 0).toInt) ((((V.nth (r6.drop 1) 0).toInt):Int)==2) Ap (un fun (dx:Int)=>un fun (JU:Int) (oh:List V)=>
    bif ek then
     bif eI then
     l9 C a b' cr ek eI (IntKind.wrap .i64 (b'-a)) dx ((JU:Int)==1) oh (b9 (un fun (Jd:Bool) (JI:List V)=>
      kr JI) (fun (ui:List V)=>
      bif decide ((a:Int)>0) then
       bif (decide (0≤(IntKind.wrap .i64 (a-1))))&&(decide ((IntKind.wrap .i64 (a-1))<(ui.length:Int))) then
       (ui[(IntKind.wrap .i64 (a-1):Int).toNat]?).bind fun fA=>
       bif (decide (0≤dx))&&(decide (dx<(ui.length:Int))) then
        (ui[(dx:Int).toNat]?).bind fun gf=>
        (C aX [.int .i64 ((fA.cell 0).toInt),.int .i64 ((fA.cell 1).toInt),.list aa ((fA.cell 2).toList),.int .i64 ((gf.cell 0).toInt),.int .i64 ((gf.cell 1).toInt),.list aa ((gf.cell 2).toList)]).bind fun dA=>
        bif !(decide ((((V.nth dA 0).toInt):Int)<0)) then
        (C tG [.int .i64 a,.int .i64 b',.int .i64 dx,.list aa ui]).bind fun iD=>
        kn ((V.nth iD 0).toInt,b',cr,ek,eI,(V.nth (iD.drop 1) 0).toList)
        else
        (C mR [.int .i64 a,.int .i64 b',.int .i64 dx,.list aa ui]).bind fun dZ=>
        bif decide (((IntKind.wrap .i64 (((V.nth dZ 0).toInt)-a)):Int)<(IntKind.wrap .i64 (b'-((V.nth dZ 0).toInt)))) then
         (C fX [.int .i64 a,.int .i64 ((V.nth dZ 0).toInt),.int .i64 cr,.list aa ((V.nth (dZ.drop 2) 0).toList)]).bind fun gZ=>
         kn (IntKind.wrap .i64 (((V.nth dZ 0).toInt)+1),b',cr,decide (((IntKind.wrap .i64 (((V.nth dZ 0).toInt)-a)):Int)≥(IntKind.wrap .i64 (Int.tdiv (IntKind.wrap .i64 (b'-a)) 8))),(V.nth (dZ.drop 1) 0).toBool,(V.nth gZ 0).toList)
        else
         (C fX [.int .i64 (IntKind.wrap .i64 (((V.nth dZ 0).toInt)+1)),.int .i64 b',.int .i64 cr,.list aa ((V.nth (dZ.drop 2) 0).toList)]).bind fun ma=>
         kn (a,(V.nth dZ 0).toInt,cr,decide (((IntKind.wrap .i64 (b'-((V.nth dZ 0).toInt))):Int)≥(IntKind.wrap .i64 (Int.tdiv (IntKind.wrap .i64 (b'-a)) 8))),(V.nth (dZ.drop 1) 0).toBool,(V.nth ma 0).toList)
       else none
       else none
      else
       (C mR [.int .i64 a,.int .i64 b',.int .i64 dx,.list aa ui]).bind fun iT=>
       bif decide (((IntKind.wrap .i64 (((V.nth iT 0).toInt)-a)):Int)<(IntKind.wrap .i64 (b'-((V.nth iT 0).toInt)))) then
       (C fX [.int .i64 a,.int .i64 ((V.nth iT 0).toInt),.int .i64 cr,.list aa ((V.nth (iT.drop 2) 0).toList)]).bind fun r23=>
       kn (IntKind.wrap .i64 (((V.nth iT 0).toInt)+1),b',cr,decide (((IntKind.wrap .i64 (((V.nth iT 0).toInt)-a)):Int)≥(IntKind.wrap .i64 (Int.tdiv (IntKind.wrap .i64 (b'-a)) 8))),(V.nth (iT.drop 1) 0).toBool,(V.nth r23 0).toList)
       else
       (C fX [.int .i64 (IntKind.wrap .i64 (((V.nth iT 0).toInt)+1)),.int .i64 b',.int .i64 cr,.list aa ((V.nth (iT.drop 2) 0).toList)]).bind fun JV=>
       kn (a,(V.nth iT 0).toInt,cr,decide (((IntKind.wrap .i64 (b'-((V.nth iT 0).toInt))):Int)≥(IntKind.wrap .i64 (Int.tdiv (IntKind.wrap .i64 (b'-a)) 8))),(V.nth (iT.drop 1) 0).toBool,(V.nth JV 0).toList)))
     else
     l9 C a b' cr ek eI (IntKind.wrap .i64 (b'-a)) dx false oh (b9 (un fun (YJ:Bool) (acY:List V)=>
      kr acY) (fun (qA:List V)=>
      bif decide ((a:Int)>0) then
       bif (decide (0≤(IntKind.wrap .i64 (a-1))))&&(decide ((IntKind.wrap .i64 (a-1))<(qA.length:Int))) then
       (qA[(IntKind.wrap .i64 (a-1):Int).toNat]?).bind fun ub=>
       bif (decide (0≤dx))&&(decide (dx<(qA.length:Int))) then
        (qA[(dx:Int).toNat]?).bind fun uc=>
        (C aX [.int .i64 ((ub.cell 0).toInt),.int .i64 ((ub.cell 1).toInt),.list aa ((ub.cell 2).toList),.int .i64 ((uc.cell 0).toInt),.int .i64 ((uc.cell 1).toInt),.list aa ((uc.cell 2).toList)]).bind fun Ej=>
        bif !(decide ((((V.nth Ej 0).toInt):Int)<0)) then
        (C tG [.int .i64 a,.int .i64 b',.int .i64 dx,.list aa qA]).bind fun Rr=>
        kn ((V.nth Rr 0).toInt,b',cr,ek,eI,(V.nth (Rr.drop 1) 0).toList)
        else
        (C mR [.int .i64 a,.int .i64 b',.int .i64 dx,.list aa qA]).bind fun na=>
        bif decide (((IntKind.wrap .i64 (((V.nth na 0).toInt)-a)):Int)<(IntKind.wrap .i64 (b'-((V.nth na 0).toInt)))) then
         (C fX [.int .i64 a,.int .i64 ((V.nth na 0).toInt),.int .i64 cr,.list aa ((V.nth (na.drop 2) 0).toList)]).bind fun r33=>
         kn (IntKind.wrap .i64 (((V.nth na 0).toInt)+1),b',cr,decide (((IntKind.wrap .i64 (((V.nth na 0).toInt)-a)):Int)≥(IntKind.wrap .i64 (Int.tdiv (IntKind.wrap .i64 (b'-a)) 8))),(V.nth (na.drop 1) 0).toBool,(V.nth r33 0).toList)
        else
         (C fX [.int .i64 (IntKind.wrap .i64 (((V.nth na 0).toInt)+1)),.int .i64 b',.int .i64 cr,.list aa ((V.nth (na.drop 2) 0).toList)]).bind fun r34=>
         kn (a,(V.nth na 0).toInt,cr,decide (((IntKind.wrap .i64 (b'-((V.nth na 0).toInt))):Int)≥(IntKind.wrap .i64 (Int.tdiv (IntKind.wrap .i64 (b'-a)) 8))),(V.nth (na.drop 1) 0).toBool,(V.nth r34 0).toList)
       else none
       else none
      else
       (C mR [.int .i64 a,.int .i64 b',.int .i64 dx,.list aa qA]).bind fun nc=>
       bif decide (((IntKind.wrap .i64 (((V.nth nc 0).toInt)-a)):Int)<(IntKind.wrap .i64 (b'-((V.nth nc 0).toInt)))) then
       (C fX [.int .i64 a,.int .i64 ((V.nth nc 0).toInt),.int .i64 cr,.list aa ((V.nth (nc.drop 2) 0).toList)]).bind fun r36=>
       kn (IntKind.wrap .i64 (((V.nth nc 0).toInt)+1),b',cr,decide (((IntKind.wrap .i64 (((V.nth nc 0).toInt)-a)):Int)≥(IntKind.wrap .i64 (Int.tdiv (IntKind.wrap .i64 (b'-a)) 8))),(V.nth (nc.drop 1) 0).toBool,(V.nth r36 0).toList)
       else
       (C fX [.int .i64 (IntKind.wrap .i64 (((V.nth nc 0).toInt)+1)),.int .i64 b',.int .i64 cr,.list aa ((V.nth (nc.drop 2) 0).toList)]).bind fun r37=>
       kn (a,(V.nth nc 0).toInt,cr,decide (((IntKind.wrap .i64 (b'-((V.nth nc 0).toInt))):Int)≥(IntKind.wrap .i64 (Int.tdiv (IntKind.wrap .i64 (b'-a)) 8))),(V.nth (nc.drop 1) 0).toBool,(V.nth r37 0).toList)))
    else
     l9 C a b' cr ek eI (IntKind.wrap .i64 (b'-a)) dx false oh (b9 (un fun (Po:Bool) (acZ:List V)=>
      kr acZ) (fun (jq:List V)=>
      bif decide ((a:Int)>0) then
      bif (decide (0≤(IntKind.wrap .i64 (a-1))))&&(decide ((IntKind.wrap .i64 (a-1))<(jq.length:Int))) then
       (jq[(IntKind.wrap .i64 (a-1):Int).toNat]?).bind fun l8=>
       bif (decide (0≤dx))&&(decide (dx<(jq.length:Int))) then
       (jq[(dx:Int).toNat]?).bind fun ue=>
       (C aX [.int .i64 ((l8.cell 0).toInt),.int .i64 ((l8.cell 1).toInt),.list aa ((l8.cell 2).toList),.int .i64 ((ue.cell 0).toInt),.int .i64 ((ue.cell 1).toInt),.list aa ((ue.cell 2).toList)]).bind fun r43=>
       bif !(decide ((((V.nth r43 0).toInt):Int)<0)) then
        (C tG [.int .i64 a,.int .i64 b',.int .i64 dx,.list aa jq]).bind fun Rs=>
        kn ((V.nth Rs 0).toInt,b',cr,ek,eI,(V.nth (Rs.drop 1) 0).toList)
       else
        (C mR [.int .i64 a,.int .i64 b',.int .i64 dx,.list aa jq]).bind fun nf=>
        bif decide (((IntKind.wrap .i64 (((V.nth nf 0).toInt)-a)):Int)<(IntKind.wrap .i64 (b'-((V.nth nf 0).toInt)))) then
        (C fX [.int .i64 a,.int .i64 ((V.nth nf 0).toInt),.int .i64 cr,.list aa ((V.nth (nf.drop 2) 0).toList)]).bind fun r46=>
        kn (IntKind.wrap .i64 (((V.nth nf 0).toInt)+1),b',cr,decide (((IntKind.wrap .i64 (((V.nth nf 0).toInt)-a)):Int)≥(IntKind.wrap .i64 (Int.tdiv (IntKind.wrap .i64 (b'-a)) 8))),(V.nth (nf.drop 1) 0).toBool,(V.nth r46 0).toList)
        else
        (C fX [.int .i64 (IntKind.wrap .i64 (((V.nth nf 0).toInt)+1)),.int .i64 b',.int .i64 cr,.list aa ((V.nth (nf.drop 2) 0).toList)]).bind fun r47=>
        kn (a,(V.nth nf 0).toInt,cr,decide (((IntKind.wrap .i64 (b'-((V.nth nf 0).toInt))):Int)≥(IntKind.wrap .i64 (Int.tdiv (IntKind.wrap .i64 (b'-a)) 8))),(V.nth (nf.drop 1) 0).toBool,(V.nth r47 0).toList)
       else none
      else none
      else
      (C mR [.int .i64 a,.int .i64 b',.int .i64 dx,.list aa jq]).bind fun ng=>
      bif decide (((IntKind.wrap .i64 (((V.nth ng 0).toInt)-a)):Int)<(IntKind.wrap .i64 (b'-((V.nth ng 0).toInt)))) then
       (C fX [.int .i64 a,.int .i64 ((V.nth ng 0).toInt),.int .i64 cr,.list aa ((V.nth (ng.drop 2) 0).toList)]).bind fun r49=>
       kn (IntKind.wrap .i64 (((V.nth ng 0).toInt)+1),b',cr,decide (((IntKind.wrap .i64 (((V.nth ng 0).toInt)-a)):Int)≥(IntKind.wrap .i64 (Int.tdiv (IntKind.wrap .i64 (b'-a)) 8))),(V.nth (ng.drop 1) 0).toBool,(V.nth r49 0).toList)
      else
       (C fX [.int .i64 (IntKind.wrap .i64 (((V.nth ng 0).toInt)+1)),.int .i64 b',.int .i64 cr,.list aa ((V.nth (ng.drop 2) 0).toList)]).bind fun r50=>
       kn (a,(V.nth ng 0).toInt,cr,decide (((IntKind.wrap .i64 (b'-((V.nth ng 0).toInt))):Int)≥(IntKind.wrap .i64 (Int.tdiv (IntKind.wrap .i64 (b'-a)) 8))),(V.nth (ng.drop 1) 0).toBool,(V.nth r50 0).toList)))))
noncomputable def Rt (C:ag):(Int × Int × Int × Bool × Bool × (List V))→Option ((Int × Int × Int × Bool × Bool × (List V)) ⊕ (List V)):=un fun a=>un fun b'=>un fun iU=>un fun ek=>un fun eI aj=>pf C a b' iU ek eI aj (fun y=>some (.inl y)) (fun r=>some (.inr r))
noncomputable def Ru (C:ag):cC:=fun β n ds k=>
 bif Nat.beq n 639 then iz Iy [[1,2,0,4,5,6,0]] (@w5 C) ds k else
 bif Nat.beq n 911 then iz Iz [[1,2,3,4,5,6,0,0,0]] (@w6 C) ds k else
 bif Nat.beq n 1215 then iz IA [[1,2,3,4,5,6,7,0,0],[1,2,3,4,5,6,7,0]] (@l9 C) ds k else
 bif Nat.beq n 33 then ch IB [true,true,true,true,true,true] [[0]] (@pf C) ds k else
 none
abbrev Eu (C:ag) (b:cx):Prop:=cy Try.prog az C (Ru C) 109 (cT Try.prog (az.aZ 109)) (az.sin 109).aY.length b
theorem ac0 (C:ag):Eu C (.cond 39 (av [1,1,0,0,0,1,1,1,0,1,0] ll) (av [1,1,0,0,0,1,1,1,0,1,1] ll)):=
 iQ Iy [[1,2,0,4,5,6,0]] (@w5 C) (by kernel_rfl) (bf (bs:=[]) (by kernel_rfl) aw) (bf (bs:=[]) (by kernel_rfl) aw) (fun ds=>by kernel_rfl) (fun i β k=>by kernel_rfl) (fun β ds k=>by kernel_rfl)
theorem ac1 (C:ag):Eu C (.cond 56 (av [1,1,0,0,0,1,1,1,1,1,0,1,0] ll) (av [1,1,0,0,0,1,1,1,1,1,0,1,1] ll)):=
 iQ Iz [[1,2,3,4,5,6,0,0,0]] (@w6 C) (by kernel_rfl) (bf (bs:=[]) (by kernel_rfl) aw) (bf (bs:=[]) (by kernel_rfl) aw) (fun ds=>by kernel_rfl) (fun i β k=>by kernel_rfl) (fun β ds k=>by kernel_rfl)
theorem ac2 (C:ag):Eu C (.cond 75 (av [1,1,0,0,0,1,1,1,1,1,1,0,1,0] ll) (av [1,1,0,0,0,1,1,1,1,1,1,0,1,1] ll)):=
 iQ IA [[1,2,3,4,5,6,7,0,0],[1,2,3,4,5,6,7,0]] (@l9 C) (by kernel_rfl) (bf (bs:=[]) (by kernel_rfl) aw) (bf (bs:=[]) (by kernel_rfl) aw) (fun ds=>by kernel_rfl) (fun i β k=>by kernel_rfl) (fun β ds k=>by kernel_rfl)
theorem ac3 (C:ag):Eu C (.loop (av [1,1,0,0] ll)):=
 ct IB [true,true,true,true,true,true] [[0]] (@pf C) (by kernel_rfl) (bf (bs:=[.cond 39 (av [1,1,0,0,0,1,1,1,0,1,0] ll) (av [1,1,0,0,0,1,1,1,0,1,1] ll),.cond 56 (av [1,1,0,0,0,1,1,1,1,1,0,1,0] ll) (av [1,1,0,0,0,1,1,1,1,1,0,1,1] ll),.cond 75 (av [1,1,0,0,0,1,1,1,1,1,1,0,1,0] ll) (av [1,1,0,0,0,1,1,1,1,1,1,0,1,1] ll)]) (by kernel_rfl) (bG (ac0 C) (bG (ac1 C) (bG (ac2 C) aw)))) (fun ds=>by kernel_rfl) (fun i x=>by kernel_rfl) (fun i x β k=>by kernel_rfl) (fun β ds k=>by kernel_rfl)
noncomputable def Rv (C:ag) (a b' iU:Int) (aj:List V):Option (List V):=
 (Loop (Rt C) (a,b',iU,true,true,aj)).bind (fun (ac4:List V)=>
  some [.list aa ac4])
theorem ac5 {a b' iU:Int} {aj:List V} {r:Option (List V)} (h:Rv CC a b' iU aj=r):CC fX [.int .i64 a,.int .i64 b',.int .i64 iU,.list aa aj]=r:=
 ba (key:=109) (L:=Ru CC) (bs:=[.loop (av [1,1,0,0] ll)]) (by kernel_rfl) (bG (ac3 CC) aw) (a8 (by kernel_rfl) h)
noncomputable def Rw (C:ag) (xs:List V):Option (List V):=
 (C zj [.int .u64 (IntKind.wrap .u64 (xs.length:Int))]).bind fun r1=>
 (C fX [.int .i64 0,.int .i64 (xs.length:Int),.int .i64 ((V.nth r1 0).toInt),.list aa xs]).bind fun r2=>
 some [.list aa ((V.nth r2 0).toList)]
theorem ac6 {xs:List V} {r:Option (List V)} (h:Rw CC xs=r):CC zi [.list aa xs]=r:=
 ba (key:=105) (L:=cj) (bs:=[]) (by kernel_rfl) aw (a8 (by kernel_rfl) h)
end Go.AM
set_option maxRecDepth 100000
set_option maxHeartbeats 4000000
namespace Go.AM.SX
open Go.Proofs Go.Sort
theorem ac7 (a b:XE):bI a b<0↔a.lt b:=Iff.rfl
theorem Rx (a b:XE):(ax a b=true)=(a.lt b):=by rw[rT];rfl
theorem Ev (a b:XE):(ax a b=false)= ¬(a.lt b):=by rw[←Rx];simp
theorem w7:SWO ax where
 irrefl x:=by rw[Ev];exact XE.lt_irrefl x
 trans x y z:=by simp only[Rx];exact XE.lt_trans
 ntrans x y z:=by simp only[Ev];exact XE.abM
def Ew:List UInt8:=([0,1,2,2,3,3,3,3,4,4,4,4,4,4,4,4,5,5,5,5,5,5,5,5,5,5,5,5,5,5,5,5,6,6,6,6,6,6,6,6,6,6,6,6,6,6,6,6,6,6,6,6,6,6,6,6,6,6,6,6,6,6,6,6,7,7,7,7,7,7,7,7,7,7,7,7,7,7,7,7,7,7,7,7,7,7,7,7,7,7,7,7,7,7,7,7,7,7,7,7,7,7,7,7,7,7,7,7,7,7,7,7,7,7,7,7,7,7,7,7,7,7,7,7,7,7,7,7,8,8,8,8,8,8,8,8,8,8,8,8,8,8,8,8,8,8,8,8,8,8,8,8,8,8,8,8,8,8,8,8,8,8,8,8,8,8,8,8,8,8,8,8,8,8,8,8,8,8,8,8,8,8,8,8,8,8,8,8,8,8,8,8,8,8,8,8,8,8,8,8,8,8,8,8,8,8,8,8,8,8,8,8,8,8,8,8,8,8,8,8,8,8,8,8,8,8,8,8,8,8,8,8,8,8,8,8,8,8,8,8,8,8,8,8,8,8,8,8,8,8,8,8,8,8,8,8]:List UInt8)
theorem ac8:(List.range 256).all (fun y=>match Ew[y]? with|some b=>decide (b.toNat≤8)&&(Nat.beq y 0||(decide (1≤b.toNat)&&decide (2^(b.toNat-1)≤y)))|none=>false)=true:=by decide+kernel
theorem Ry {y:Nat} (h:y<256): ∃b,Ew[y]? =some b∧b.toNat≤8∧(0<y→1≤b.toNat∧2^(b.toNat-1)≤y):=by
 have:=eS.1 ac8 y (List.mem_range.2 h)
 cases hb:Ew[y]? with
 | none=>rw[hb] at this;cases this
 | some b=>
  rw[hb] at this
  simp only[aI,Bool.or_eq_true,dJ] at this
  refine ⟨b,rfl,this.1,fun hy=> ?_⟩
  rcases this.2 with U|U
  ·have:=xp U;omega
  ·exact U
theorem JW {y t k:Nat} (h:2^(t-1)≤y/2^k) (ht:1≤t):2^(t+k-1)≤y:=by
 have e:t+k-1=(t-1)+k:=by omega
 rw[e,Nat.pow_add]
 exact lq (dk _ h) (Nat.div_mul_le_self _ _)
noncomputable def w8 (y n:Int):Option (List V):=
(bif decide ((y:Int)≥256) then
    (bif decide (0≤(IntKind.wrap .u8 (Int.fdiv y (2^(min (8:Int).toNat (IntKind.bits .u64)))))) then (([0,1,2,2,3,3,3,3,4,4,4,4,4,4,4,4,5,5,5,5,5,5,5,5,5,5,5,5,5,5,5,5,6,6,6,6,6,6,6,6,6,6,6,6,6,6,6,6,6,6,6,6,6,6,6,6,6,6,6,6,6,6,6,6,7,7,7,7,7,7,7,7,7,7,7,7,7,7,7,7,7,7,7,7,7,7,7,7,7,7,7,7,7,7,7,7,7,7,7,7,7,7,7,7,7,7,7,7,7,7,7,7,7,7,7,7,7,7,7,7,7,7,7,7,7,7,7,7,8,8,8,8,8,8,8,8,8,8,8,8,8,8,8,8,8,8,8,8,8,8,8,8,8,8,8,8,8,8,8,8,8,8,8,8,8,8,8,8,8,8,8,8,8,8,8,8,8,8,8,8,8,8,8,8,8,8,8,8,8,8,8,8,8,8,8,8,8,8,8,8,8,8,8,8,8,8,8,8,8,8,8,8,8,8,8,8,8,8,8,8,8,8,8,8,8,8,8,8,8,8,8,8,8,8,8,8,8,8,8,8,8,8,8,8,8,8,8,8,8,8,8,8,8,8,8,8]:List UInt8)[(IntKind.wrap .u8 (Int.fdiv y (2^(min (8:Int).toNat (IntKind.bits .u64)))):Int).toNat]?).map fun b=>V.int .u8 b.toNat else none).bind fun x5=>
    some [V.int .i64 (IntKind.wrap .i64 ((IntKind.wrap .i64 (n+8))+(IntKind.wrap .i64 x5.toInt)))]
   else
    (bif decide (0≤(IntKind.wrap .u8 y)) then (([0,1,2,2,3,3,3,3,4,4,4,4,4,4,4,4,5,5,5,5,5,5,5,5,5,5,5,5,5,5,5,5,6,6,6,6,6,6,6,6,6,6,6,6,6,6,6,6,6,6,6,6,6,6,6,6,6,6,6,6,6,6,6,6,7,7,7,7,7,7,7,7,7,7,7,7,7,7,7,7,7,7,7,7,7,7,7,7,7,7,7,7,7,7,7,7,7,7,7,7,7,7,7,7,7,7,7,7,7,7,7,7,7,7,7,7,7,7,7,7,7,7,7,7,7,7,7,7,8,8,8,8,8,8,8,8,8,8,8,8,8,8,8,8,8,8,8,8,8,8,8,8,8,8,8,8,8,8,8,8,8,8,8,8,8,8,8,8,8,8,8,8,8,8,8,8,8,8,8,8,8,8,8,8,8,8,8,8,8,8,8,8,8,8,8,8,8,8,8,8,8,8,8,8,8,8,8,8,8,8,8,8,8,8,8,8,8,8,8,8,8,8,8,8,8,8,8,8,8,8,8,8,8,8,8,8,8,8,8,8,8,8,8,8,8,8,8,8,8,8,8,8,8,8,8,8]:List UInt8)[(IntKind.wrap .u8 y:Int).toNat]?).map fun b=>V.int .u8 b.toNat else none).bind fun x6=>
    some [V.int .i64 (IntKind.wrap .i64 (n+(IntKind.wrap .i64 x6.toInt)))])
theorem ac9 {x:Nat} (h:x<2^64): ∃L:Nat,CC DH [.int .u64 (x:Int)]=some [.int .i64 (L:Int)]∧L≤64∧(0<x→1≤L∧2^(L-1)≤x):=by
 have last: ∀y n:Nat,y<65536→n≤48→∃t:Nat,
   w8 (y:Int) (n:Int)=some [V.int .i64 ((n+t:Nat):Int)]∧t≤16∧(0<y→1≤t∧2^(t-1)≤y):=by
  intro y n hy hn
  unfold w8
  rw[show ([0,1,2,2,3,3,3,3,4,4,4,4,4,4,4,4,5,5,5,5,5,5,5,5,5,5,5,5,5,5,5,5,6,6,6,6,6,6,6,6,6,6,6,6,6,6,6,6,6,6,6,6,6,6,6,6,6,6,6,6,6,6,6,6,7,7,7,7,7,7,7,7,7,7,7,7,7,7,7,7,7,7,7,7,7,7,7,7,7,7,7,7,7,7,7,7,7,7,7,7,7,7,7,7,7,7,7,7,7,7,7,7,7,7,7,7,7,7,7,7,7,7,7,7,7,7,7,7,8,8,8,8,8,8,8,8,8,8,8,8,8,8,8,8,8,8,8,8,8,8,8,8,8,8,8,8,8,8,8,8,8,8,8,8,8,8,8,8,8,8,8,8,8,8,8,8,8,8,8,8,8,8,8,8,8,8,8,8,8,8,8,8,8,8,8,8,8,8,8,8,8,8,8,8,8,8,8,8,8,8,8,8,8,8,8,8,8,8,8,8,8,8,8,8,8,8,8,8,8,8,8,8,8,8,8,8,8,8,8,8,8,8,8,8,8,8,8,8,8,8,8,8,8,8,8,8]:List UInt8)=Ew from rfl]
  by_cases h1:y≥256
  ·have e:Int.fdiv (y:Int) (2^(min (8:Int).toNat (IntKind.bits .u64)))=((y/2^8:Nat):Int):=Jb (m:=8) (by omega)
   obtain ⟨b,hb,b1,b2⟩:=Ry (y:=y/2^8) (by omega)
   refine ⟨b.toNat+8,?_,by omega,fun _=> ?_⟩
   ·rw[e,aA,ak (by omega),vC (by omega) (by omega),aA,ak (by omega),Int.toNat_natCast,hb]
    simp only[Option.map_some,Option.bind_some,V.toInt_int]
    simp (disch:=omega) only[wrap64]
    congr 3
    omega
   ·obtain ⟨b3,b4⟩:=b2 (by omega)
    exact ⟨by omega,JW b4 b3⟩
  ·obtain ⟨b,hb,b1,b2⟩:=Ry (y:=y) (by omega)
   refine ⟨b.toNat,?_,by omega,b2⟩
   rw[aA,ai (by omega),vC (by omega) (by omega),aA,ak (by omega),Int.toNat_natCast,hb]
   simp (disch:=omega) only[Option.map_some,Option.bind_some,V.toInt_int,wrap64]
   congr 3
 have mid: ∀y n:Nat,y<4294967296→n≤32→∃t:Nat,∀F:Int→Int→Option (List V),
   (∀y n:Nat,y<65536→n≤48→∃t:Nat,F (y:Int) (n:Int)=some [V.int .i64 ((n+t:Nat):Int)]∧t≤16∧(0<y→1≤t∧2^(t-1)≤y))→
   ∃t:Nat,uh CC (y:Int) (n:Int) (decide (((y:Int):Int)≥65536)) (un F)=some [V.int .i64 ((n+t:Nat):Int)]∧t≤32∧(0<y→1≤t∧2^(t-1)≤y):=by
  intro y n hy hn
  refine ⟨0,fun F hF=> ?_⟩
  unfold uh
  by_cases h1:y≥65536
  ·have e:Int.fdiv (y:Int) (2^(min (16:Int).toNat (IntKind.bits .u64)))=((y/2^16:Nat):Int):=Jb (m:=16) (by omega)
   rw[aA,ak (by omega),e,wrap64 (by omega) (by omega)]
   obtain ⟨t,U,h3,h4⟩:=hF (y/2^16) (n+16) (by omega) (by omega)
   refine ⟨t+16,?_,by omega,fun _=> ?_⟩
   ·rw[show ((n:Int)+16)=((n+16:Nat):Int) by omega]
    simp only[un]
    rw[U]
    congr 3
    omega
   ·obtain ⟨b3,b4⟩:=h4 (by omega)
    exact ⟨by omega,JW b4 b3⟩
  ·rw[aA,ai (by omega)]
   obtain ⟨t,U,h3,h4⟩:=hF y n (by omega) (by omega)
   exact ⟨t,U,by omega,h4⟩
 by_cases h1:x≥4294967296
 ·have e:Int.fdiv (x:Int) (2^(min (32:Int).toNat (IntKind.bits .u64)))=((x/2^32:Nat):Int):=Jb (m:=32) (by omega)
  obtain ⟨_,hm⟩:=mid (x/2^32) 32 (by omega) (by omega)
  obtain ⟨t,U,h3,h4⟩:=hm w8 last
  refine ⟨32+t,Rq ?_,by omega,fun _=> ?_⟩
  ·show ug CC (x:Int) 0 (decide (((x:Int):Int)≥4294967296)) (un fun (rX:Int) (An:Int)=>uh CC rX An (decide ((rX:Int)≥65536)) (un w8))=_
   unfold ug
   rw[aA,ak (by omega),e]
   exact U
  ·obtain ⟨b3,b4⟩:=h4 (by omega)
   rw[Nat.add_comm 32 t]
   exact ⟨by omega,JW b4 b3⟩
 ·obtain ⟨_,hm⟩:=mid x 0 (by omega) (by omega)
  obtain ⟨t,U,h3,h4⟩:=hm w8 last
  refine ⟨t,Rq ?_,by omega,h4⟩
  show ug CC (x:Int) 0 (decide (((x:Int):Int)≥4294967296)) (un fun (rX:Int) (An:Int)=>uh CC rX An (decide ((rX:Int)≥65536)) (un w8))=_
  unfold ug
  rw[aA,ai (by omega)]
  rw[gj] at U
  exact U
theorem Rz {x:Nat} (h:x<2^64): ∃L:Nat,CC zj [.int .u64 (x:Int)]=some [.int .i64 (L:Int)]∧L≤64∧(0<x→1≤L∧2^(L-1)≤x):=by
 obtain ⟨L,h1,U⟩:=ac9 h
 refine ⟨L,acU ?_,U⟩
 unfold Rm
 rw[h1]
 rfl
theorem ada {x:Nat} (h0:0<x) (h:x<1152921504606846976): ∃M:Nat,CC DI [.int .i64 (x:Int)]=some [.int .u64 (M:Int)]∧1≤M∧M≤2*x:=by
 obtain ⟨L,h1,U,h3⟩:=Rz (x:=x) (by omega)
 obtain ⟨h4,h5⟩:=h3 h0
 have e:2^L=2*2^(L-1):=by
  obtain ⟨k,rfl⟩: ∃k,L=k+1:=⟨L-1,by omega⟩
  rw[Nat.pow_succ];simp only[uz];omega
 have hL:L<64:=by
  by_cases hx:L<64
  ·exact hx
  ·have:2^63≤2^(L-1):=Nat.pow_le_pow_right (by omega) (by omega)
   omega
 refine ⟨2^L,acT ?_,Nat.pos_of_ne_zero (by simp),by omega⟩
 unfold Rl
 rw[zx (A:=x) (by omega),h1]
 simp only[Option.bind_some,V.aV,V.toInt_int]
 rw[aA,ak (by omega),Int.toNat_natCast,Yw hL]
theorem adb (r:Int): ∃R:Nat,CC DJ [.int .u64 r]=some [.int .u64 (R:Int),.int .u64 (R:Int)]∧R<2^64:=by
 have h: ∀n:Int,∃R:Nat,IntKind.wrap .u64 n=(R:Int)∧R<2^64:=fun n=>⟨(IntKind.wrap .u64 n).toNat,by rw[wrap_u64];omega,by rw[wrap_u64];omega⟩
 obtain ⟨R,h1,U⟩:=h _
 exact ⟨R,acS (by unfold Rk;rw[h1]),U⟩
theorem Ey {d:Array XE} {i:Nat} (h:i<d.size):idx (eA d) (i:Int)=some (d[i]!).enc:=by rw[Of,fw h]
theorem JX {d:Array XE} {a b:Nat} {s:Int} (ha:a<d.size) (hb:b<d.size): ∃(x y:Nat) (s':Int),CC vY [.list aa (eA d),.int .i64 (a:Int),.int .i64 (b:Int),.int .i64 s]=some [.int .i64 (x:Int),.int .i64 (y:Int),.int .i64 s']∧(x=a∧y=b∨x=b∧y=a):=by
 by_cases h:bI d[b]! d[a]! <0
 ·refine ⟨b,a,_,Rf (by unfold JT;rw[Ey hb,Ey ha];simp only[Option.bind_some,XE.bw,XE.bx,XE.bz,gd,V.aV,V.toInt_int];rw[aA,ak h]),.inr ⟨rfl,rfl⟩⟩
 ·refine ⟨a,b,_,Rf (by unfold JT;rw[Ey hb,Ey ha];simp only[Option.bind_some,XE.bw,XE.bx,XE.bz,gd,V.aV,V.toInt_int];rw[aA,ai h]),.inl ⟨rfl,rfl⟩⟩
theorem JY {d:Array XE} {a b c:Nat} {s:Int} (ha:a<d.size) (hb:b<d.size) (hc:c<d.size): ∃(m:Nat) (s':Int),CC zo [.list aa (eA d),.int .i64 (a:Int),.int .i64 (b:Int),.int .i64 (c:Int),.int .i64 s]=some [.int .i64 (m:Int),.int .i64 s']∧(m=a∨m=b∨m=c):=by
 obtain ⟨x1,y1,s1,e1,o1⟩:=JX (s:=s) ha hb
 obtain ⟨x2,y2,s2,e2,o2⟩:=JX (d:=d) (a:=y1) (b:=c) (s:=s1) (by omega) hc
 obtain ⟨x3,y3,s3,e3,o3⟩:=JX (d:=d) (a:=x1) (b:=x2) (s:=s2) (by omega) (by omega)
 refine ⟨y3,s3,acN ?_,by omega⟩
 unfold Re
 rw[e1]
 simp only[Option.bind_some,V.aV,V.qm,V.toInt_int,j9,iG]
 rw[e2]
 simp only[Option.bind_some,V.aV,V.qm,V.toInt_int,j9,iG]
 rw[e3]
 rfl
theorem JZ {d:Array XE} {a:Nat} {s:Int} (h1:1≤a) (ha:a+1<d.size) (hs:d.size<1152921504606846976): ∃(m:Nat) (s':Int),CC vX [.list aa (eA d),.int .i64 (a:Int),.int .i64 s]=some [.int .i64 (m:Int),.int .i64 s']∧a≤m+1∧m≤a+1:=by
 obtain ⟨m,s',e,o⟩:=JY (d:=d) (a:=a-1) (b:=a) (c:=a+1) (s:=s) (by omega) (by omega) (by omega)
 refine ⟨m,s',acO ?_,by omega,by omega⟩
 unfold Rg
 simp (disch:=omega) only[jU,dw,wrap64]
 rw[e]
 rfl
theorem J0 (n:Nat):Int.tdiv (n:Int) 4=((n/4:Nat):Int):=by
 have:=divC n 4
 exact this
theorem mulC (k n:Nat):((k:Nat):Int)*(n:Int)=((k*n:Nat):Int):=(Int.natCast_mul k n).symm
theorem ade {d:Array XE} {a b:Nat} (eM:a+12<b) (hb:b≤d.size) (hs:d.size<1152921504606846976): ∃(p:Nat) (h:Int),CC zm [.list aa (eA d),.int .i64 (a:Int),.int .i64 (b:Int)]=some [.int .i64 (p:Int),.int .i64 h]∧a≤p∧p<b:=by
 have fin: ∀(p:Nat) (s:Int),∃h:Int,(bif (s:Int)==0 then some [V.int .i64 (p:Int),V.int .i64 1] else bif (s:Int)==12 then some [V.int .i64 (p:Int),V.int .i64 2] else some [V.int .i64 (p:Int),V.int .i64 0])=some [V.int .i64 (p:Int),V.int .i64 h]:=by
  intro p s
  rw[e7]
  split
  ·exact ⟨1,rfl⟩
  ·rw[e7]
   split
   ·exact ⟨2,rfl⟩
   ·exact ⟨0,rfl⟩
 have e1:IntKind.wrap .i64 ((b:Int)-(a:Int))=((b-a:Nat):Int):=by rw[lZ (by omega),wrap64 (by omega) (by omega)]
 have e2:IntKind.wrap .i64 (Int.tdiv ((b-a:Nat):Int) 4)=(((b-a)/4:Nat):Int):=by rw[J0,wrap64 (by omega) (by omega)]
 have e3: ∀k:Nat,k≤3→IntKind.wrap .i64 ((a:Int)+IntKind.wrap .i64 ((k:Int)*(((b-a)/4:Nat):Int)))=((a+k*((b-a)/4):Nat):Int):=by
  intro k hk
  have lN:k*((b-a)/4)≤3*((b-a)/4):=dk _ hk
  simp (disch:=omega) only[mulC,wrap64,fx]
 have J1:=e3 1 (by omega)
 have rY:=e3 2 (by omega)
 have J2:=e3 3 (by omega)
 rw[show ((1:Nat):Int)=1 from rfl] at J1
 rw[show ((2:Nat):Int)=2 from rfl] at rY
 rw[show ((3:Nat):Int)=3 from rfl] at J2
 by_cases h50:b-a≥50
 ·obtain ⟨m1,s1,q1,r1⟩:=JZ (d:=d) (a:=a+1*((b-a)/4)) (s:=0) (by omega) (by omega) hs
  obtain ⟨m2,s2,q2,r2⟩:=JZ (d:=d) (a:=a+2*((b-a)/4)) (s:=s1) (by omega) (by omega) hs
  obtain ⟨m3,s3,q3,r3⟩:=JZ (d:=d) (a:=a+3*((b-a)/4)) (s:=s2) (by omega) (by omega) hs
  obtain ⟨m,s,q,r⟩:=JY (d:=d) (a:=m1) (b:=m2) (c:=m3) (s:=s3) (by omega) (by omega) (by omega)
  obtain ⟨h,hf⟩:=fin m s
  refine ⟨m,h,Rc ?_,by omega,by omega⟩
  unfold JR Ak Aj
  rw[e1,e2,J1,rY,J2,mX (by omega),cond_true,mX (by omega),cond_true,q1]
  simp only[Option.bind_some,V.aV,V.qm,V.toInt_int,j9,iG]
  rw[q2]
  simp only[Option.bind_some,V.aV,V.qm,V.toInt_int,j9,iG]
  rw[q3]
  simp only[Option.bind_some,V.aV,V.qm,V.toInt_int,j9,iG,un]
  rw[q]
  exact hf
 ·obtain ⟨m,s,q,r⟩:=JY (d:=d) (a:=a+1*((b-a)/4)) (b:=a+2*((b-a)/4)) (c:=a+3*((b-a)/4)) (s:=0) (by omega) (by omega) (by omega)
  obtain ⟨h,hf⟩:=fin m s
  refine ⟨m,h,Rc ?_,by omega,by omega⟩
  unfold JR Ak Aj
  rw[e1,e2,J1,rY,J2,mX (by omega),cond_true,rR (by omega),cond_false]
  simp only[un]
  rw[q]
  exact hf
theorem adf {a b M:Nat} (hM1:1≤M) (hM:M≤2*(b-a)) (h8:8≤b-a) (hB:b<1152921504606846976): ∀(n i:Nat) (d:Array XE) (r:Int),a+2*((b-a)/4)+2-i=n→a≤i→b≤d.size→d.size<1152921504606846976→
  ∃x y z R,Loop (Et CC a (b-a:Nat) M) ((i:Int),eA d,r)=some (x,y,eA R,z)∧PermIn a b d R:=by
 have e2:IntKind.wrap .i64 (Int.tdiv ((b-a:Nat):Int) 4)=(((b-a)/4:Nat):Int):=by rw[J0,wrap64 (by omega) (by omega)]
 have rY:IntKind.wrap .i64 ((a:Int)+IntKind.wrap .i64 (2*(((b-a)/4:Nat):Int)))=((a+2*((b-a)/4):Nat):Int):=by
  have:=mulC 2 ((b-a)/4)
  rw[show ((2:Nat):Int)=2 from rfl] at this
  rw[this]
  simp (disch:=omega) only[wrap64,fx]
 intro n
 induction n with
 | zero=>
  intro i d r hn hi hb hs
  refine ⟨(i:Int),false,r,d,bc ?_,permIn_refl _ _ _⟩
  simp only[Et,Am,un]
  rw[e2,rY,dw,wrap64 (by omega) (by omega),rR (by omega),cond_false]
 | succ n ih=>
  intro i d r hn hi hb hs
  obtain ⟨R1,q1,q2⟩:=adb r
  obtain ⟨o,ho,kT⟩: ∃o:Nat,(o=if R1&&&(M-1)≥b-a then (R1&&&(M-1))-(b-a) else R1&&&(M-1))∧o<b-a:=by
   refine ⟨_,rfl,?_⟩
   have:R1&&&(M-1)≤M-1:=Nat.and_le_right
   split<;>omega
  have hand:R1&&&(M-1)≤M-1:=Nat.and_le_right
  have hP:=swp_permIn (α:=XE) d a b i (a+o) hi (by omega) (by omega) (by omega) hb
  obtain ⟨x,y,z,R,e,hR⟩:=ih (i+1) (swp d i (a+o)) (R1:Int) (by omega) (by omega) (by rw[size_swp];exact hb) (by rw[size_swp];exact hs)
  refine ⟨x,y,z,R,(bV ?_).trans e,permIn_trans _ _ _ a b hP hR⟩
  simp only[Et,Am,un]
  rw[e2,rY,dw,wrap64 (x:=((a+2*((b-a)/4)+1:Nat):Int)) (by omega) (by omega),mX (by omega),cond_true,q1]
  simp only[Option.bind_some,V.aV,V.qm,V.toInt_int,j9,iG]
  have e5:IntKind.wrap .u64 ((M:Int)-1)=((M-1:Nat):Int):=by rw[jU hM1,zx (by omega)]
  rw[e5,u64_and q2 (by omega),wrap64 (x:=((R1&&&(M-1):Nat):Int)) (by omega) (by omega)]
  have fin: ∀k:Int,k=(o:Int)→(bif (decide (0≤(IntKind.wrap .i64 ((a:Int)+k))))&&(decide ((IntKind.wrap .i64 ((a:Int)+k))<((eA d).length:Int))) then
   ((eA d)[(IntKind.wrap .i64 ((a:Int)+k):Int).toNat]?).bind fun x4=>
   bif (decide (0≤(i:Int)))&&(decide ((i:Int)<((eA d).length:Int))) then
    ((eA d)[((i:Int):Int).toNat]?).bind fun x5=>
    bif (decide (0≤(i:Int)))&&(decide ((i:Int)<((eA d).length:Int))) then
    ((eA d)[((i:Int):Int).toNat]?).bind fun x6=>
    bif (decide (0≤(IntKind.wrap .i64 ((a:Int)+k))))&&(decide ((IntKind.wrap .i64 ((a:Int)+k))<(((eA d).set (((i:Int):Int).toNat) (.agg [.int .i64 ((x4.cell 0).toInt),.int .i64 ((x4.cell 1).toInt),.list aa ((x4.cell 2).toList)])).length:Int))) then
     (((eA d).set (((i:Int):Int).toNat) (.agg [.int .i64 ((x4.cell 0).toInt),.int .i64 ((x4.cell 1).toInt),.list aa ((x4.cell 2).toList)]))[(IntKind.wrap .i64 ((a:Int)+k):Int).toNat]?).bind fun x7=>
     some (.inl (IntKind.wrap .i64 ((i:Int)+1),((eA d).set (((i:Int):Int).toNat) (.agg [.int .i64 ((x4.cell 0).toInt),.int .i64 ((x4.cell 1).toInt),.list aa ((x4.cell 2).toList)])).set ((IntKind.wrap .i64 ((a:Int)+k):Int).toNat) (.agg [.int .i64 ((x5.cell 0).toInt),.int .i64 ((x5.cell 1).toInt),.list aa ((x5.cell 2).toList)]),(R1:Int)))
    else none
    else none
   else none
   else none:Option ((Int × List V × Int) ⊕ (Int × Bool × List V × Int)))=some (.inl (((i+1:Nat):Int),eA (swp d i (a+o)),(R1:Int))):=by
   intro k hk
   subst hk
   simp (disch:=omega) only[aA,df,gB,ak,ai,wrap64,dw,fx,Int.toNat_natCast,Option.bind_some,fu,fw,XE.bw,XE.bx,XE.bz,XE.re,fv,gY,gm,gd,V.aV,V.toInt_int,cond_true,cond_false]
   rfl
  unfold Er
  by_cases h:R1&&&(M-1)≥b-a
  ·rw[ak h] at ho
   rw[mX (by omega),cond_true]
   exact fin _ (by rw[lZ (by omega),wrap64 (by omega) (by omega)];omega)
  ·rw[ai h] at ho
   rw[rR (by omega),cond_false]
   exact fin _ (by omega)
theorem adg {a b:Nat} {d:Array XE} (eM:a+12<b) (hb:b≤d.size) (hs:d.size<1152921504606846976): ∃R,CC DE [.int .i64 (a:Int),.int .i64 (b:Int),.list aa (eA d)]=some [.list aa (eA R)]∧PermIn a b d R:=by
 obtain ⟨M,q1,q2,q3⟩:=ada (x:=b-a) (by omega) (by omega)
 have e1:IntKind.wrap .i64 ((b:Int)-(a:Int))=((b-a:Nat):Int):=by rw[lZ (by omega),wrap64 (by omega) (by omega)]
 have e2:IntKind.wrap .i64 (Int.tdiv ((b-a:Nat):Int) 4)=(((b-a)/4:Nat):Int):=by rw[J0,wrap64 (by omega) (by omega)]
 have rY:IntKind.wrap .i64 ((a:Int)+IntKind.wrap .i64 (2*(((b-a)/4:Nat):Int)))=((a+2*((b-a)/4):Nat):Int):=by
  have:=mulC 2 ((b-a)/4)
  rw[show ((2:Nat):Int)=2 from rfl] at this
  rw[this]
  simp (disch:=omega) only[wrap64,fx]
 obtain ⟨x,y,z,R,e,hR⟩:=adf (a:=a) (b:=b) (M:=M) q2 q3 (by omega) (by omega) _ (a+2*((b-a)/4)-1) d (IntKind.wrap .u64 ((b-a:Nat):Int)) rfl (by omega) hb hs
 refine ⟨R,acR ?_,hR⟩
 unfold Rj
 rw[e1,aA,ak (by omega),q1]
 simp only[Option.bind_some,V.aV,V.toInt_int]
 rw[e2,rY,jU (by omega),wrap64 (x:=((a+2*((b-a)/4)-1:Nat):Int)) (by omega) (by omega),e]
 rfl
noncomputable def rZ (C:ag) (a b':Int) (ek eI:Bool) (cr dx:Int) (l7:List V) {β:Type} (kn:(Int × Int × Int × Bool × Bool × (List V))→Option β):Option β:=
      bif decide ((a:Int)>0) then
       bif (decide (0≤(IntKind.wrap .i64 (a-1))))&&(decide ((IntKind.wrap .i64 (a-1))<(l7.length:Int))) then
       (l7[(IntKind.wrap .i64 (a-1):Int).toNat]?).bind fun jn=>
       bif (decide (0≤dx))&&(decide (dx<(l7.length:Int))) then
        (l7[(dx:Int).toNat]?).bind fun m8=>
        (C aX [.int .i64 ((jn.cell 0).toInt),.int .i64 ((jn.cell 1).toInt),.list aa ((jn.cell 2).toList),.int .i64 ((m8.cell 0).toInt),.int .i64 ((m8.cell 1).toInt),.list aa ((m8.cell 2).toList)]).bind fun lj=>
        bif !(decide ((((V.nth lj 0).toInt):Int)<0)) then
        (C tG [.int .i64 a,.int .i64 b',.int .i64 dx,.list aa l7]).bind fun nh=>
        kn ((V.nth nh 0).toInt,b',cr,ek,eI,(V.nth (nh.drop 1) 0).toList)
        else
        (C mR [.int .i64 a,.int .i64 b',.int .i64 dx,.list aa l7]).bind fun dA=>
        bif decide (((IntKind.wrap .i64 (((V.nth dA 0).toInt)-a)):Int)<(IntKind.wrap .i64 (b'-((V.nth dA 0).toInt)))) then
         (C fX [.int .i64 a,.int .i64 ((V.nth dA 0).toInt),.int .i64 cr,.list aa ((V.nth (dA.drop 2) 0).toList)]).bind fun iD=>
         kn (IntKind.wrap .i64 (((V.nth dA 0).toInt)+1),b',cr,decide (((IntKind.wrap .i64 (((V.nth dA 0).toInt)-a)):Int)≥(IntKind.wrap .i64 (Int.tdiv (IntKind.wrap .i64 (b'-a)) 8))),(V.nth (dA.drop 1) 0).toBool,(V.nth iD 0).toList)
        else
         (C fX [.int .i64 (IntKind.wrap .i64 (((V.nth dA 0).toInt)+1)),.int .i64 b',.int .i64 cr,.list aa ((V.nth (dA.drop 2) 0).toList)]).bind fun dZ=>
         kn (a,(V.nth dA 0).toInt,cr,decide (((IntKind.wrap .i64 (b'-((V.nth dA 0).toInt))):Int)≥(IntKind.wrap .i64 (Int.tdiv (IntKind.wrap .i64 (b'-a)) 8))),(V.nth (dA.drop 1) 0).toBool,(V.nth dZ 0).toList)
       else none
       else none
      else
       (C mR [.int .i64 a,.int .i64 b',.int .i64 dx,.list aa l7]).bind fun gZ=>
       bif decide (((IntKind.wrap .i64 (((V.nth gZ 0).toInt)-a)):Int)<(IntKind.wrap .i64 (b'-((V.nth gZ 0).toInt)))) then
       (C fX [.int .i64 a,.int .i64 ((V.nth gZ 0).toInt),.int .i64 cr,.list aa ((V.nth (gZ.drop 2) 0).toList)]).bind fun ma=>
       kn (IntKind.wrap .i64 (((V.nth gZ 0).toInt)+1),b',cr,decide (((IntKind.wrap .i64 (((V.nth gZ 0).toInt)-a)):Int)≥(IntKind.wrap .i64 (Int.tdiv (IntKind.wrap .i64 (b'-a)) 8))),(V.nth (gZ.drop 1) 0).toBool,(V.nth ma 0).toList)
       else
       (C fX [.int .i64 (IntKind.wrap .i64 (((V.nth gZ 0).toInt)+1)),.int .i64 b',.int .i64 cr,.list aa ((V.nth (gZ.drop 2) 0).toList)]).bind fun iT=>
       kn (a,(V.nth gZ 0).toInt,cr,decide (((IntKind.wrap .i64 (b'-((V.nth gZ 0).toInt))):Int)≥(IntKind.wrap .i64 (Int.tdiv (IntKind.wrap .i64 (b'-a)) 8))),(V.nth (gZ.drop 1) 0).toBool,(V.nth iT 0).toList)
theorem Ez (C:ag) (a b' iU:Int) (ek eI:Bool) (aj:List V) {β:Type} (kn:(Int × Int × Int × Bool × Bool × (List V))→Option β) (kr:(List V)→Option β):
  pf C a b' iU ek eI aj kn kr=
 bif decide (((IntKind.wrap .i64 (b'-a)):Int)≤12) then
  (C zk [.int .i64 a,.int .i64 b',.list aa aj]).bind fun r1=>
  kr ((V.nth r1 0).toList)
 else
  bif (iU:Int)==0 then
  (C zl [.int .i64 a,.int .i64 b',.list aa aj]).bind fun r2=>
  kr ((V.nth r2 0).toList)
  else
  w5 C a b' iU ek eI (IntKind.wrap .i64 (b'-a)) (!ek) aj (un fun (cr:Int) (Ap:List V)=>
   (C zm [.list aa Ap,.int .i64 a,.int .i64 b']).bind fun r6=>
   w6 C a b' cr ek eI (IntKind.wrap .i64 (b'-a)) ((V.nth r6 0).toInt) ((V.nth (r6.drop 1) 0).toInt) ((((V.nth (r6.drop 1) 0).toInt):Int)==2) Ap (un fun (dx:Int)=>un fun (JU:Int) (oh:List V)=>
    bif ek then
     bif eI then
     l9 C a b' cr ek eI (IntKind.wrap .i64 (b'-a)) dx ((JU:Int)==1) oh (b9 (un fun (Pg:Bool) (J3:List V)=>
      kr J3) (fun (l7:List V)=>rZ C a b' ek eI cr dx l7 kn))
     else
     l9 C a b' cr ek eI (IntKind.wrap .i64 (b'-a)) dx false oh (b9 (un fun (Pn:Bool) (adh:List V)=>
      kr adh) (fun (adi:List V)=>rZ C a b' ek eI cr dx adi kn))
    else
     l9 C a b' cr ek eI (IntKind.wrap .i64 (b'-a)) dx false oh (b9 (un fun (YP:Bool) (adj:List V)=>
      kr adj) (fun (adk:List V)=>rZ C a b' ek eI cr dx adk kn)))):=rfl
section
variable {a b:Nat} {lim:Int} {wb wp:Bool}
theorem adl {d:Array XE} (eM:a+12<b) (hb:b≤d.size) (hs:d.size<1152921504606846976) (len:Int) (t:Bool): ∃(l1:Int) (d1:Array XE),PermIn a b d d1∧∀(β:Type) (kr:(Int × List V)→Option β),w5 CC a b lim wb wp len t (eA d) kr=kr (l1,eA d1):=by
 cases t with
 | true=>
  obtain ⟨R,e,hR⟩:=adg eM hb hs
  refine ⟨IntKind.wrap .i64 (lim-1),R,hR,fun β kr=> ?_⟩
  unfold w5
  rw[cond_true,e]
  rfl
 | false=>exact ⟨lim,d,permIn_refl _ _ _,fun β kr=>rfl⟩
theorem adm {d:Array XE} (eM:a+12<b) (hb:b≤d.size) (hs:d.size<1152921504606846976) (len h:Int) (t:Bool) {p:Nat} (h1:a≤p) (U:p<b): ∃(p2:Nat) (U:Int) (d1:Array XE),a≤p2∧p2<b∧PermIn a b d d1∧∀(β:Type) (kr:(Int × Int × List V)→Option β),w6 CC a b lim wb wp len p h t (eA d) kr=kr ((p2:Int),U,eA d1):=by
 cases t with
 | true=>
  refine ⟨b-1-(p-a),1,reverseRange d a b,by omega,by omega,reverseRange_holds d a b (by omega) hb,fun β kr=> ?_⟩
  unfold w6
  rw[cond_true,ab8 (by omega) hb hs]
  simp (disch:=omega) only[Option.bind_some,V.aV,V.lb,jU,lZ,wrap64]
 | false=>exact ⟨p,h,d,h1,U,permIn_refl _ _ _,fun β kr=>rfl⟩
theorem adn {d:Array XE} (eM:a+12<b) (hb:b≤d.size) (hs:d.size<1152921504606846976) (hB:Below ax a b d) (len p:Int) (t:Bool): ∃d1:Array XE,PermIn a b d d1∧
  ((∀(β:Type) (kr:((Bool × List V) ⊕ List V)→Option β),l9 CC a b lim wb wp len p t (eA d) kr=kr (.inr (eA d1)))∨
  (SortedIn ax a b d1∧∀(β:Type) (kr:((Bool × List V) ⊕ List V)→Option β),l9 CC a b lim wb wp len p t (eA d) kr=kr (.inl (true,eA d1)))):=by
 cases t with
 | true=>
  have hp:=partialInsertionSort_holds (lt:=ax) w7 d a b (by omega) hb hB
  refine ⟨_,hp.1,?_⟩
  cases h:(partialInsertionSort ax d a b).2 with
  | true=>
   refine .inr ⟨hp.2 h,fun β kr=> ?_⟩
   unfold l9
   rw[cond_true,Q8 (by omega) hb hs,h]
   rfl
  | false=>
   refine .inl fun β kr=> ?_
   unfold l9
   rw[cond_true,Q8 (by omega) hb hs,h]
   rfl
 | false=>exact ⟨d,permIn_refl _ _ _,.inl fun β kr=>rfl⟩
end
def EA (a b:Nat) (d:Array XE):Prop:= ∀(lim:Int) (wb wp:Bool),∃R,Loop (Rt CC) ((a:Int),(b:Int),lim,wb,wp,eA d)=some (eA R)∧PermIn a b d R∧SortedIn ax a b R
theorem EA.call {a b:Nat} {d:Array XE} (h:EA a b d) (lim:Int): ∃R,CC fX [.int .i64 (a:Int),.int .i64 (b:Int),.int .i64 lim,.list aa (eA d)]=some [.list aa (eA R)]∧PermIn a b d R∧SortedIn ax a b R:=by
 obtain ⟨R,e,h1,U⟩:=h lim true true
 refine ⟨R,ac5 ?_,h1,U⟩
 unfold Rv
 rw[e]
 rfl
theorem ado {a b p:Nat} {d:Array XE} (eM:a+12<b) (hb:b≤d.size) (hs:d.size<1152921504606846976) (hB:Below ax a b d) (h1:a≤p) (U:p<b)
  (ih: ∀(a2 b2:Nat) (d2:Array XE),b2-a2<b-a→a2≤b2→b2≤d2.size→d2.size<1152921504606846976→Below ax a2 b2 d2→EA a2 b2 d2) (wb wp:Bool) (lim:Int):
  ∃(a2 b2:Nat) (uj uk:Bool) (d2:Array XE),b2-a2<b-a∧a2≤b2∧b2≤d2.size∧d2.size<1152921504606846976∧Below ax a2 b2 d2∧
   (∀R,PermIn a2 b2 d2 R→SortedIn ax a2 b2 R→PermIn a b d R∧SortedIn ax a b R)∧
   ∀(β:Type) (kn:(Int × Int × Int × Bool × Bool × (List V))→Option β),rZ CC a b wb wp lim p (eA d) kn=kn ((a2:Int),(b2:Int),lim,uj,uk,eA d2):=by
 have part: ∃(a2 b2:Nat) (uj uk:Bool) (d2:Array XE),b2-a2<b-a∧a2≤b2∧b2≤d2.size∧d2.size<1152921504606846976∧Below ax a2 b2 d2∧
   (∀R,PermIn a2 b2 d2 R→SortedIn ax a2 b2 R→PermIn a b d R∧SortedIn ax a b R)∧
   ∀(β:Type) (kn:(Int × Int × Int × Bool × Bool × (List V))→Option β),
    ((CC mR [.int .i64 (a:Int),.int .i64 (b:Int),.int .i64 (p:Int),.list aa (eA d)]).bind fun dA=>
        bif decide (((IntKind.wrap .i64 (((V.nth dA 0).toInt)-(a:Int))):Int)<(IntKind.wrap .i64 ((b:Int)-((V.nth dA 0).toInt)))) then
         (CC fX [.int .i64 (a:Int),.int .i64 ((V.nth dA 0).toInt),.int .i64 lim,.list aa ((V.nth (dA.drop 2) 0).toList)]).bind fun iD=>
         kn (IntKind.wrap .i64 (((V.nth dA 0).toInt)+1),(b:Int),lim,decide (((IntKind.wrap .i64 (((V.nth dA 0).toInt)-(a:Int))):Int)≥(IntKind.wrap .i64 (Int.tdiv (IntKind.wrap .i64 ((b:Int)-(a:Int))) 8))),(V.nth (dA.drop 1) 0).toBool,(V.nth iD 0).toList)
        else
         (CC fX [.int .i64 (IntKind.wrap .i64 (((V.nth dA 0).toInt)+1)),.int .i64 (b:Int),.int .i64 lim,.list aa ((V.nth (dA.drop 2) 0).toList)]).bind fun dZ=>
         kn ((a:Int),(V.nth dA 0).toInt,lim,decide (((IntKind.wrap .i64 ((b:Int)-((V.nth dA 0).toInt))):Int)≥(IntKind.wrap .i64 (Int.tdiv (IntKind.wrap .i64 ((b:Int)-(a:Int))) 8))),(V.nth (dA.drop 1) 0).toBool,(V.nth dZ 0).toList))=kn ((a2:Int),(b2:Int),lim,uj,uk,eA d2):=by
  obtain ⟨mid,ap,d4,hx⟩: ∃mid ap d4,partition ax d a b p=(mid,ap,d4):=⟨_,_,_,rfl⟩
  obtain ⟨g1,g2,oo,hBa,hBr,adp,adq⟩:=round_part w7 (partition_holds ax) h1 U hb hB hx
  have hc:=acC (a:=a) (b:=b) (pivot:=p) (d:=d) U (by omega) hb hs
  rw[hx] at hc
  by_cases hl:mid-a<b-mid
  ·obtain ⟨L,e,l1,l2⟩:=(ih a mid d4 (by omega) g1 (by rw[oo];omega) (by rw[oo];exact hs) hBa).call lim
   obtain ⟨J4,Aq⟩:=adp _ l1 l2
   refine ⟨mid+1,b,decide (((IntKind.wrap .i64 ((mid:Int)-(a:Int))):Int)≥(IntKind.wrap .i64 (Int.tdiv (IntKind.wrap .i64 ((b:Int)-(a:Int))) 8))),ap,L,by omega,by omega,by rw[l1.1,oo];exact hb,by rw[l1.1,oo];exact hs,J4,Aq,fun β kn=> ?_⟩
   ·rw[hc]
    simp only[Option.bind_some,V.aV,V.qm,V.toInt_int,V.dQ,V.lb,j9,iG]
    rw[aA,ak (by rw[lZ g1,lZ (by omega),wrap64 (by omega) (by omega),wrap64 (by omega) (by omega)];omega),e]
    simp only[Option.bind_some,V.aV,V.lb]
    rw[dw,wrap64 (x:=((mid+1:Nat):Int)) (by omega) (by omega)]
  ·obtain ⟨L,e,l1,l2⟩:=(ih (mid+1) b d4 (by omega) (by omega) (by rw[oo];exact hb) (by rw[oo];exact hs) hBr).call lim
   obtain ⟨J4,Aq⟩:=adq _ l1 l2
   refine ⟨a,mid,decide (((IntKind.wrap .i64 ((b:Int)-(mid:Int))):Int)≥(IntKind.wrap .i64 (Int.tdiv (IntKind.wrap .i64 ((b:Int)-(a:Int))) 8))),ap,L,by omega,by omega,by rw[l1.1,oo];omega,by rw[l1.1,oo];exact hs,J4,Aq,fun β kn=> ?_⟩
   ·rw[hc]
    simp only[Option.bind_some,V.aV,V.qm,V.toInt_int,V.dQ,V.lb,j9,iG]
    rw[aA,ai (by rw[lZ g1,lZ (by omega),wrap64 (by omega) (by omega),wrap64 (by omega) (by omega)];omega),dw,wrap64 (x:=((mid+1:Nat):Int)) (by omega) (by omega),e]
    simp only[Option.bind_some,V.aV,V.lb]
 by_cases ha:0<a
 ·by_cases hc:bI d[a-1]! d[p]! <0
  ·obtain ⟨a2,b2,uj,uk,d2,q1,q2,q3,q4,q5,q6,q7⟩:=part
   refine ⟨a2,b2,uj,uk,d2,q1,q2,q3,q4,q5,q6,fun β kn=> ?_⟩
   rw[←q7 β kn]
   unfold rZ
   rw[aA,ak (by omega),jU ha,wrap64 (by omega) (by omega),jV (i:=a-1) (by omega),jW (by omega),jV (i:=p) (by omega),jW (by omega)]
   simp only[XE.bw,XE.bx,XE.bz,gd,Option.bind_some,V.aV,V.toInt_int]
   rw[gB,aA,ak hc]
  ·obtain ⟨mid,d4,hx⟩: ∃mid d4,partitionEqual ax d a b p=(mid,d4):=⟨_,_,rfl⟩
   obtain ⟨g1,F2,oo,hB4,Aq⟩:=round_eq w7 (partitionEqual_holds ax) ha h1 U hb hB (by rw[Ev,←propext (ac7 _ _)];exact hc) hx
   have he:=acE (a:=a) (b:=b) (pivot:=p) (d:=d) U (by omega) hb hs
   rw[hx] at he
   refine ⟨mid,b,wb,wp,d4,by omega,F2,by rw[oo];exact hb,by rw[oo];exact hs,hB4,Aq,fun β kn=> ?_⟩
   unfold rZ
   rw[aA,ak (by omega),jU ha,wrap64 (by omega) (by omega),jV (i:=a-1) (by omega),jW (by omega),jV (i:=p) (by omega),jW (by omega)]
   simp only[XE.bw,XE.bx,XE.bz,gd,Option.bind_some,V.aV,V.toInt_int]
   rw[gB,aA,ai hc,he]
   rfl
 ·obtain ⟨a2,b2,uj,uk,d2,q1,q2,q3,q4,q5,q6,q7⟩:=part
  refine ⟨a2,b2,uj,uk,d2,q1,q2,q3,q4,q5,q6,fun β kn=> ?_⟩
  rw[←q7 β kn]
  unfold rZ
  rw[aA,ai (by omega)]
theorem adr: ∀(n a b:Nat) (d:Array XE),b-a≤n→a≤b→b≤d.size→d.size<1152921504606846976→Below ax a b d→EA a b d:=by
 intro n
 induction n with
 | zero=>
  intro a b d hn eM hb hs hB lim wb wp
  have hi:=insertionSort_holds (lt:=ax) w7 d a b eM hb
  refine ⟨_,bc ?_,hi⟩
  show pf CC a b lim wb wp (eA d) (fun y=>some (Sum.inl y)) (fun r=>some (Sum.inr r))=_
  rw[Ez,aA,ak (by rw[lZ eM,wrap64 (by omega) (by omega)];omega),QQ hb hs (by omega)]
  rfl
 | succ n ih=>
  intro a b d hn eM hb hs hB lim wb wp
  by_cases h12:b-a≤12
  ·have hi:=insertionSort_holds (lt:=ax) w7 d a b eM hb
   refine ⟨_,bc ?_,hi⟩
   show pf CC a b lim wb wp (eA d) (fun y=>some (Sum.inl y)) (fun r=>some (Sum.inr r))=_
   rw[Ez,aA,ak (by rw[lZ eM,wrap64 (by omega) (by omega)];omega),QQ hb hs (by omega)]
   rfl
  ·have Ar:a+12<b:=by omega
   have rC: ¬(((IntKind.wrap .i64 ((b:Int)-(a:Int))):Int)≤12):=by rw[lZ eM,wrap64 (by omega) (by omega)];omega
   by_cases h0:lim=0
   ·have hi:=heapSort_holds (lt:=ax) w7 d a b eM hb
    refine ⟨_,bc ?_,hi⟩
    show pf CC a b lim wb wp (eA d) (fun y=>some (Sum.inl y)) (fun r=>some (Sum.inr r))=_
    rw[Ez,aA,ai rC,e7,ak h0,ab6 (by omega) hb hs]
    rfl
   ·obtain ⟨l1,d1,s1,k1⟩:=adl (lim:=lim) (wb:=wb) (wp:=wp) Ar hb hs (IntKind.wrap .i64 ((b:Int)-(a:Int))) (!wb)
    have b1:b≤d1.size:=by rw[s1.1];exact hb
    have z1:d1.size<1152921504606846976:=by rw[s1.1];exact hs
    obtain ⟨p,h,c1,p1,p2⟩:=ade Ar b1 z1
    obtain ⟨q,U,d2,q1,q2,s2,k2⟩:=adm (lim:=l1) (wb:=wb) (wp:=wp) Ar b1 z1 (IntKind.wrap .i64 ((b:Int)-(a:Int))) h (h==2) p1 p2
    have b2:b≤d2.size:=by rw[s2.1];exact b1
    have z2:d2.size<1152921504606846976:=by rw[s2.1];exact z1
    have B2:Below ax a b d2:=(hB.perm hb s1).perm b1 s2
    obtain ⟨t,ht⟩: ∃t:Bool,t=(bif wb then (bif wp then (U==1) else false) else false):=⟨_,rfl⟩
    obtain ⟨d3,s3,k3⟩:=adn (lim:=l1) (wb:=wb) (wp:=wp) Ar b2 z2 B2 (IntKind.wrap .i64 ((b:Int)-(a:Int))) (q:Int) t
    have b3:b≤d3.size:=by rw[s3.1];exact b2
    have z3:d3.size<1152921504606846976:=by rw[s3.1];exact z2
    have B3:Below ax a b d3:=B2.perm b2 s3
    have P3:PermIn a b d d3:=permIn_trans _ _ _ a b (permIn_trans _ _ _ a b s1 s2) s3
    have step: ∀(β:Type) (kn:(Int × Int × Int × Bool × Bool × (List V))→Option β) (kr:(List V)→Option β),pf CC a b lim wb wp (eA d) kn kr=
      l9 CC a b l1 wb wp (IntKind.wrap .i64 ((b:Int)-(a:Int))) (q:Int) t (eA d2) (b9 (un fun (Pg:Bool) (J3:List V)=>kr J3) (fun (l7:List V)=>rZ CC a b wb wp l1 q l7 kn)):=by
     intro β kn kr
     rw[Ez,aA,ai rC,e7,ai h0,k1]
     simp only[un]
     rw[c1]
     simp only[Option.bind_some,V.aV,V.qm,V.toInt_int,j9,iG]
     rw[k2]
     simp only[un]
     rw[ht]
     cases wb
     ·rfl
     ·cases wp
      ·rfl
      ·rfl
    rcases k3 with k3|⟨k3s,k3⟩
    ·obtain ⟨a4,b4,wb4,wp4,d4,r1,r2,r3,r4,r5,r6,r7⟩:=ado Ar b3 z3 B3 q1 q2 (fun a2 b2 d2 aL h1 U h3 h4=>ih a2 b2 d2 (by omega) h1 U h3 h4) wb wp l1
     obtain ⟨R,e,e1,e2⟩:=ih a4 b4 d4 (by omega) r2 r3 r4 r5 l1 wb4 wp4
     obtain ⟨f1,f2⟩:=r6 R e1 e2
     refine ⟨R,(bV ?_).trans e,permIn_trans _ _ _ a b P3 f1,f2⟩
     show pf CC a b lim wb wp (eA d) (fun y=>some (Sum.inl y)) (fun r=>some (Sum.inr r))=_
     rw[step,k3]
     exact r7 _ (fun y=>some (Sum.inl y))
    ·refine ⟨d3,bc ?_,P3,k3s⟩
     show pf CC a b lim wb wp (eA d) (fun y=>some (Sum.inl y)) (fun r=>some (Sum.inr r))=_
     rw[step,k3]
     rfl
theorem ads (l:List XE) (hs:l.length<1152921504606846976): ∃R:List XE,CC zi [.list aa (l.map XE.enc)]=some [.list aa (R.map XE.enc)]∧R.Perm l∧R.Pairwise (fun x y=> ¬y.lt x):=by
 obtain ⟨L,e1,_⟩:=Rz (x:=l.length) (by omega)
 obtain ⟨R,e2,h1,U⟩:=(adr _ 0 l.toArray.size l.toArray (bX _) (j7 _) (bX _) (by simpa using hs) (.inl rfl)).call (L:Int)
 have aR:R.size=l.length:=by rw[h1.1];simp
 refine ⟨R.toList,ac6 ?_,?_,?_⟩
 ·unfold Rw
  rw[bm,zx (A:=l.length) (by omega),e1]
  simp only[Option.bind_some,V.aV,V.toInt_int]
  have e3:eA l.toArray=l.map XE.enc:=by simp[pb]
  rw[e3,show ((l.toArray.size:Nat):Int)=(l.length:Int) by simp,show ((0:Nat):Int)=0 from rfl] at e2
  rw[e2]
  rfl
 ·have h3:=h1.2.2
  rw[show l.toArray.size=R.size from h1.1.symm,Array.extract_size,h1.1,Array.extract_size] at h3
  exact h3
 ·rw[Bg]
  intro i j hi hj s8
  have h3:=U i j (j7 _) s8 (by simpa[←aR] using hj)
  rw[Ev] at h3
  have dF:i<R.size:=by simpa using hi
  have fU:j<R.size:=by simpa using hj
  rw[getElem!_pos R i dF,getElem!_pos R j fU] at h3
  simpa using h3
end Go.AM.SX
set_option maxRecDepth 100000
namespace Go.AM
open Go.Proofs
noncomputable abbrev EB:Code:=cP Try.prog (az.aZ 106)
noncomputable def w9 (C:ag) (As um:Nat) (k' jX:Int) (ss:List V) {β:Type} (kn:(Int × Int × (List V))→Option β) (kr:(Int × Int × Bool × (List V))→Option β):Option β:=
 bif decide ((jX:Int)<(um:Int)) then
  bif (decide (0≤jX))&&(decide (jX<(um:Int))) then
  (ss[As+((jX:Int).toNat)]?).bind fun x4=>
  bif (decide (0≤(IntKind.wrap .i64 (jX-1))))&&(decide ((IntKind.wrap .i64 (jX-1))<(um:Int))) then
   (ss[As+((IntKind.wrap .i64 (jX-1):Int).toNat)]?).bind fun x5=>
   (C oX [.int .i64 ((x4.cell 0).toInt),.int .i64 ((x4.cell 1).toInt),.list aa ((x4.cell 2).toList),.int .i64 ((x5.cell 0).toInt),.int .i64 ((x5.cell 1).toInt),.list aa ((x5.cell 2).toList)]).bind fun r6=>
   bif !((V.nth r6 0).toBool) then
   bif (decide (0≤jX))&&(decide (jX<(um:Int))) then
    (ss[As+((jX:Int).toNat)]?).bind fun x7=>
    bif (decide (0≤k'))&&(decide (k'<(ss.length:Int))) then
    (ss[(k':Int).toNat]?).bind fun x8=>
    kn (IntKind.wrap .i64 (k'+1),IntKind.wrap .i64 (jX+1),ss.set ((k':Int).toNat) (.agg [.int .i64 ((x7.cell 0).toInt),.int .i64 ((x7.cell 1).toInt),.list aa ((x7.cell 2).toList)]))
    else none
   else none
   else
   kn (k',IntKind.wrap .i64 (jX+1),ss)
  else none
  else none
 else
  kr (k',jX,decide ((jX:Int)<(um:Int)),ss)
noncomputable def uo (C:ag) (As um:Nat):(Int × Int × (List V))→Option ((Int × Int × (List V)) ⊕ (Int × Int × Bool × (List V))):=un fun k'=>un fun jX ss=>w9 C As um k' jX ss (fun y=>some (.inl y)) (fun r=>some (.inr r))
noncomputable def xb (C:ag) (ss:List V) (k':Int) {β:Type} (kn:Int→Option β) (kr:((List V) ⊕ (Int × Bool))→Option β):Option β:=
 bif decide ((k':Int)<(ss.length:Int)) then
  bif (decide (0≤k'))&&(decide (k'<(ss.length:Int))) then
  (ss[(k':Int).toNat]?).bind fun x1=>
  bif (decide (0≤(IntKind.wrap .i64 (k'-1))))&&(decide ((IntKind.wrap .i64 (k'-1))<(ss.length:Int))) then
   (ss[(IntKind.wrap .i64 (k'-1):Int).toNat]?).bind fun x2=>
   (C oX [.int .i64 ((x1.cell 0).toInt),.int .i64 ((x1.cell 1).toInt),.list aa ((x1.cell 2).toList),.int .i64 ((x2.cell 0).toInt),.int .i64 ((x2.cell 1).toInt),.list aa ((x2.cell 2).toList)]).bind fun r3=>
   bif (V.nth r3 0).toBool then
   bif (decide (0≤k'))&&(decide (k'≤(ss.length:Int))) then
    (Loop (uo C ((k':Int).toNat) (ss.length-((k':Int).toNat))) (k',1,ss)).bind (un fun (mc:Int)=>un fun (ahx:Int)=>un fun (D0:Bool) (qE:List V)=>
     bif (decide (0≤mc))&&(decide (mc≤(qE.length:Int))) then
     bif (decide (0≤mc))&&(decide (mc≤((qE.take ((mc:Int).toNat)++(List.replicate (qE.length-((mc:Int).toNat)) (V.agg [.int .i64 0,.int .i64 0,.list aa ([]:List V)])++qE.drop (((mc:Int).toNat)+(qE.length-((mc:Int).toNat))))).length:Int))) then
      kr (.inl ((qE.take ((mc:Int).toNat)++(List.replicate (qE.length-((mc:Int).toNat)) (V.agg [.int .i64 0,.int .i64 0,.list aa ([]:List V)])++qE.drop (((mc:Int).toNat)+(qE.length-((mc:Int).toNat))))).take ((mc:Int).toNat)))
     else none
     else none)
   else none
   else
   kn (IntKind.wrap .i64 (k'+1))
  else none
  else none
 else
  kr (.inr (k',decide ((k':Int)<(ss.length:Int))))
noncomputable def uq (C:ag) (ss:List V):(Int)→Option ((Int) ⊕ ((List V) ⊕ (Int × Bool))):=fun k'=>xb C ss k' (fun y=>some (.inl y)) (fun r=>some (.inr r))
noncomputable def RA (C:ag):cC:=fun β n ds k=>
 bif Nat.beq n 145 then ch Iw [true,false,false,true,true] [[0,2,3,0,0,0]] (@w9 C) ds k else
 bif Nat.beq n 65 then ch Ix [true,false] [[0],[0,0,2]] (@xb C) ds k else
 none
abbrev RB (C:ag) (b:cx):Prop:=cy Try.prog az C (RA C) 106 (cT Try.prog (az.aZ 106)) (az.sin 106).aY.length b
theorem adt (C:ag):RB C (.loop (av [1,1,0,1,0,0,1,0,0,1,0,1,0,1,0,0] EB)):=
 ct Iw [true,false,false,true,true] [[0,2,3,0,0,0]] (@w9 C) (by kernel_rfl) (bf (bs:=[]) (by kernel_rfl) aw) (fun ds=>by kernel_rfl) (fun i x=>by kernel_rfl) (fun i x β k=>by kernel_rfl) (fun β ds k=>by kernel_rfl)
theorem adu (C:ag):RB C (.loop (av [1,1,0,1,0,0] EB)):=
 ct Ix [true,false] [[0],[0,0,2]] (@xb C) (by kernel_rfl) (bf (bs:=[.loop (av [1,1,0,1,0,0,1,0,0,1,0,1,0,1,0,0] EB)]) (by kernel_rfl) (bG (adt C) aw)) (fun ds=>by kernel_rfl) (fun i x=>by kernel_rfl) (fun i x β k=>by kernel_rfl) (fun β ds k=>by kernel_rfl)
noncomputable def EC (C:ag) (ss:List V):Option (List V):=
 bif decide (((ss.length:Int):Int)<2) then
  some [V.bool true,.list aa ss]
 else
  (Loop (uq C ss) 1).bind (b9 (fun (adv:List V)=>
   some [V.bool false,.list aa adv]) (un fun (ahy:Int) (zB:Bool)=>
   some [V.bool true,.list aa ss]))
theorem J5 {ss:List V} {r:Option (List V)} (h:EC CC ss=r):CC DD [.list aa ss]=r:=
 ba (key:=106) (L:=RA CC) (bs:=[.loop (av [1,1,0,1,0,0] EB)]) (by kernel_rfl) (bG (adu CC) aw) (a8 (by kernel_rfl) h)
noncomputable def RC (C:ag) (gb:List V):Option (List V):=
 (C zi [.list aa gb]).bind fun r1=>
 (C DD [.list aa ((V.nth r1 0).toList)]).bind fun r2=>
 bif (V.nth r2 0).toBool then
  some [V.bool true,.list aa ((V.nth (r2.drop 1) 0).toList)]
 else
  some [V.bool false,.list aa ((V.nth (r2.drop 1) 0).toList)]
theorem adw {gb:List V} {r:Option (List V)} (h:RC CC gb=r):CC tF [.list aa gb]=r:=
 ba (key:=98) (L:=cj) (bs:=[]) (by kernel_rfl) aw (a8 (by kernel_rfl) h)
noncomputable def RD (C:ag) (o4 o5:Int) (qt:List V) (o6 o7:Int) (qu:List V):Option (List V):=
 (C aX [.int .i64 o4,.int .i64 o5,.list aa qt,.int .i64 o6,.int .i64 o7,.list aa qu]).bind fun r1=>
 some [.bool ((((V.nth r1 0).toInt):Int)==0)]
theorem adx {o4 o5:Int} {qt:List V} {o6 o7:Int} {qu:List V} {r:Option (List V)} (h:RD CC o4 o5 qt o6 o7 qu=r):CC oX [.int .i64 o4,.int .i64 o5,.list aa qt,.int .i64 o6,.int .i64 o7,.list aa qu]=r:=
 ba (key:=107) (L:=cj) (bs:=[]) (by kernel_rfl) aw (a8 (by kernel_rfl) h)
end Go.AM
set_option maxRecDepth 100000
namespace Go.AM
open Go.Proofs Ex
def ni (prev:Ex):List Ex→List Ex
 | []=>[]
 | x::l=>if cmp x prev=0 then ni x l else x::ni x l
def iE:List Ex→List Ex
 | []=>[]
 | x::l=>x::ni x l
theorem RE: ∀(m:List Ex) (prev x:Ex),ni prev (m++[x])=ni prev m++(if cmp x ((prev::m).getD m.length aT)=0 then [] else [x])
 | [],prev,x=>by simp only[List.nil_append,ni,List.length_nil,xB]
 | y::m,prev,x=>by
  have ih:=RE m y x
  simp only[List.cons_append,ni,List.length_cons,List.getD_cons_succ]
  split
  ·exact ih
  ·rw[ih];rfl
theorem RF {l:List Ex} {p:Nat} (h1:1≤p) (U:p<l.length):iE (l.take (p+1))=iE (l.take p)++(if cmp (l.getD p aT) (l.getD (p-1) aT)=0 then [] else [l.getD p aT]):=by
 match l,p,h1,U with
 | y::l,p+1,_,U=>
  simp only[List.length_cons] at U
  rw[List.take_succ_cons,List.take_succ_cons,iE,iE,kC (by omega),RE]
  simp only[List.getD_cons_succ,fe,uz]
  rw[show min p l.length=p by omega]
  have:(y::l.take p).getD p aT=(y::l).getD p aT:=by
   match p with
   | 0=>rfl
   | q+1=>simp only[List.getD_cons_succ];rw[eU,eU,eD (by omega)]
  rw[this];rfl
theorem RG: ∀(m:List Ex) (prev:Ex),(prev::m).Pairwise (fun x y=> ¬y.lx x)→jm (prev::ni prev m)∧∀x,x∈prev::ni prev m↔x∈prev::m
 | [],prev,_=>⟨by simp[ni],by simp[ni]⟩
 | y::m,prev,h=>by
  have h1:=sq.1 h
  obtain ⟨i1,i2⟩:=RG m y h1.2
  rw[ni]
  by_cases hc:cmp y prev=0
  ·rw[ak hc]
   have:=tO _ _ hc
   subst this
   refine ⟨i1,fun x=> ?_⟩
   rw[i2 x];simp
  ·rw[ai hc]
   have aL:prev.lx y:=by
    by_cases U:prev.lx y
    ·exact U
    ·exact absurd (Ex.PW U (h1.1 y (by simp))) fun e=>hc (by rw[e];exact zD _)
   refine ⟨sq.2 ⟨fun x hx=> ?_,i1⟩,fun x=> ?_⟩
   ·rcases c8.1 hx with rfl|hx
    ·exact aL
    ·exact Ex.Jm aL ((sq.1 i1).1 x hx)
   ·rw[c8,i2 x,←c8]
theorem ady {l:List Ex} (h:l.Pairwise (fun x y=> ¬y.lx x)):jm (iE l)∧∀x,x∈iE l↔x∈l:=by
 match l,h with
 | [],_=>exact ⟨List.Pairwise.nil,fun _=>Iff.rfl⟩
 | y::l,h=>exact RG l y h
theorem RH (a:Ex) (ha:a.Ok) (b:Ex) (hb:b.Ok):CC oX (bW a (bW b []))=some [.bool (decide (cmp a b=0))]:=by
 refine adx ?_
 unfold RD
 refine (congrArg (fun o=>Option.bind o _) (PO a ha b hb)).trans ?_
 simp only[Option.bind_some,V.aV,V.toInt_int]
 rw[zJ]
section
variable {l:List Ex} (hn:l.length≤1000000) (au: ∀k∈l,k.Ok)
include hn au
theorem adz {k:Nat}: ∀(d k2 i:Nat) (ss:List Ex),k+k2+d=l.length→1≤k2→i+1≤k+k2→ss.length=l.length→ss.take i=iE (l.take (k+k2))→ss.drop (k+k2-1)=l.drop (k+k2-1)→
  ∃t u eF,Loop (uo CC k (l.length-k)) ((i:Int),(k2:Int),ss.map enc)=some (((iE l).length:Int),u,t,List.map enc eF)∧eF.take (iE l).length=iE l∧eF.length=l.length:=by
 intro d
 induction d with
 | zero=>
  intro k2 i ss hj lN hi hl ht hd
  have e0:l.take (k+k2)=l:=List.take_of_length_le (by omega)
  rw[e0] at ht
  have gx:i=(iE l).length:=by rw[←ht,fe];omega
  refine ⟨false,(k2:Int),ss,bc ?_,by rw[←gx];exact ht,hl⟩
  simp only[uo,w9,un,bm,aA]
  rw[ai (by omega),cS (by omega),gx]
 | succ d ih=>
  intro k2 i ss hj lN hi hl ht hd
  have hp:k+k2<l.length:=by omega
  have ij:ss.drop (k+k2)=l.drop (k+k2):=by
   have h:=congrArg (List.drop 1) hd
   rw[py,py] at h
   rwa [show k+k2-1+1=k+k2 by omega] at h
  have g1:=zR hl ij hp
  have g0:=zR hl hd (show k+k2-1<l.length by omega)
  have x1:(ss.map enc)[k+k2]? =some (l.getD (k+k2) aT).enc:=by rw[og (by omega),g1]
  have x0:(ss.map enc)[k+(k2-1)]? =some (l.getD (k+k2-1) aT).enc:=by rw[show k+(k2-1)=k+k2-1 by omega,og (by omega),g0]
  have w1:IntKind.wrap .i64 ((k2:Int)-1)=((k2-1:Nat):Int):=by rw[wrap64 (by omega) (by omega)];omega
  have t1:((k2:Nat):Int)<((l.length-k:Nat):Int):=by omega
  have t2:(0:Int)≤((k2:Nat):Int):=by omega
  have t3:(0:Int)≤((k2-1:Nat):Int):=by omega
  have t4:((k2-1:Nat):Int)<((l.length-k:Nat):Int):=by omega
  have t5:((i:Nat):Int)<(ss.length:Int):=by omega
  have t6:(0:Int)≤((i:Nat):Int):=by omega
  have b8: ∃y,(ss.map enc)[i]? =some y:=⟨_,og (by omega)⟩
  obtain ⟨y,hy⟩:=b8
  have co:=RH (l.getD (k+k2) aT) (D1 au hp) (l.getD (k+k2-1) aT) (D1 au (by omega))
  have cs:=RF (l:=l) (p:=k+k2) (by omega) hp
  by_cases he:cmp (l.getD (k+k2) aT) (l.getD (k+k2-1) aT)=0
  ·have bS:uo CC k (l.length-k) ((i:Int),(k2:Int),ss.map enc)=some (.inl ((i:Int),((k2+1:Nat):Int),ss.map enc)):=by
    simp only[uo,w9,un,bm,aA,df,w1,t1,t2,t3,t4,dj,Int.toNat_natCast,x1,x0,Option.bind_some,bw,bx,bz]
    refine (congrArg (fun o=>Option.bind o _) co).trans ?_
    simp only[Option.bind_some,V.aV,V.dQ]
    rw[eo he,pw,cond_false,wrap64 (by omega) (by omega)]
    rfl
   rw[bV bS]
   refine ih (k2+1) i ss (by omega) (by omega) (by omega) hl ?_ (by rw[show k+(k2+1)-1=k+k2 by omega];exact ij)
   rw[show k+(k2+1)=k+k2+1 by omega,cs,ak he,dy,ht]
  ·have bS:uo CC k (l.length-k) ((i:Int),(k2:Int),ss.map enc)=some (.inl (((i+1:Nat):Int),((k2+1:Nat):Int),(ss.set i (l.getD (k+k2) aT)).map enc)):=by
    simp only[uo,w9,un,bm,aA,df,w1,t1,t2,t3,t4,t5,t6,dj,Int.toNat_natCast,x1,x0,hy,Option.bind_some,bw,bx,bz]
    refine (congrArg (fun o=>Option.bind o _) co).trans ?_
    simp only[Option.bind_some,V.aV,V.dQ]
    rw[cS he,sr,cond_true,wrap64 (by omega) (by omega),wrap64 (by omega) (by omega),←en,xC]
    rfl
   rw[bV bS]
   refine ih (k2+1) (i+1) (ss.set i (l.getD (k+k2) aT)) (by omega) (by omega) (by omega) (by simpa using hl) ?_ ?_
   ·rw[kC (by rw[nr];omega),Bi (bX i),ht,show k+(k2+1)=k+k2+1 by omega,cs,ai he]
    simp[show i<ss.length by omega]
   ·rw[show k+(k2+1)-1=k+k2 by omega,Bj (by omega),ij]
theorem adA: ∀(d p:Nat),p+d=l.length→1≤p→iE (l.take p)=l.take p→
  (iE l=l∧∃t,Loop (uq CC (l.map enc)) (p:Int)=some (.inr t))∨Loop (uq CC (l.map enc)) (p:Int)=some (.inl ((iE l).map enc)):=by
 intro d
 induction d with
 | zero=>
  intro p hp h1 hc
  obtain rfl:p=l.length:=by omega
  rw[pr] at hc
  refine .inl ⟨hc,((l.length:Int),false),bc ?_⟩
  simp only[uq,xb,bm,aA]
  rw[ai (by omega),cS (by omega)]
 | succ d ih=>
  intro p hp h1 hc
  have bL:p<l.length:=by omega
  have cs:=RF (l:=l) h1 bL
  have co:=RH (l.getD p aT) (D1 au bL) (l.getD (p-1) aT) (D1 au (by omega))
  have x1:(l.map enc)[p]? =some (l.getD p aT).enc:=og bL
  have x0:(l.map enc)[p-1]? =some (l.getD (p-1) aT).enc:=og (by omega)
  have w1:IntKind.wrap .i64 ((p:Int)-1)=((p-1:Nat):Int):=by rw[wrap64 (by omega) (by omega)];omega
  have t1:((p:Nat):Int)<(l.length:Int):=by omega
  have t2:(0:Int)≤((p:Nat):Int):=by omega
  have t3:(0:Int)≤((p-1:Nat):Int):=by omega
  have t4:((p-1:Nat):Int)<(l.length:Int):=by omega
  have t5:((p:Nat):Int)≤(l.length:Int):=by omega
  by_cases he:cmp (l.getD p aT) (l.getD (p-1) aT)=0
  ·refine .inr (bc ?_)
   obtain ⟨t,u,eF,e1,e2,e3⟩:=adz hn au (k:=p) (l.length-(p+1)) 1 p l (by omega) (by omega) (by omega) rfl (by rw[cs,ak he,dy,hc]) rfl
   have hm:(iE l).length≤eF.length:=by
    have:=congrArg List.length e2
    rw[fe] at this
    omega
   have m1:(0:Int)≤(((iE l).length:Nat):Int):=by omega
   have m2:(((iE l).length:Nat):Int)≤((eF.map enc).length:Int):=by rw[bm];omega
   simp only[uq,xb,bm,aA,df,w1,t1,t2,t3,t4,t5,dj,Int.toNat_natCast,x1,x0,Option.bind_some,bw,bx,bz]
   refine (congrArg (fun o=>Option.bind o _) co).trans ?_
   simp only[Option.bind_some,V.aV,V.dQ]
   rw[eo he,cond_true]
   refine (congrArg (fun o=>Option.bind o _) e1).trans ?_
   simp only[Option.bind_some,un,df,aA,Int.toNat_natCast]
   rw[ak m1,ak m2,ak m1,ak (by simp only[ca,fe,sm,sk,bm];omega),Ed _ _ _ hm,e2]
  ·have bS:uq CC (l.map enc) (p:Int)=some (.inl ((p+1:Nat):Int)):=by
    simp only[uq,xb,bm,aA,df,w1,t1,t2,t3,t4,dj,Int.toNat_natCast,x1,x0,Option.bind_some,bw,bx,bz]
    refine (congrArg (fun o=>Option.bind o _) co).trans ?_
    simp only[Option.bind_some,V.aV,V.dQ]
    rw[cS he,cond_false,wrap64 (by omega) (by omega)]
    rfl
   rw[bV bS]
   exact ih (p+1) (by omega) (by omega) (by rw[cs,ai he,hc,←kC bL])
theorem adB: ∃b,CC DD [.list aa (l.map enc)]=some [.bool b,.list aa ((iE l).map enc)]:=by
 by_cases U:l.length<2
 ·refine ⟨true,J5 ?_⟩
  unfold EC
  rw[bm,aA,ak (by omega)]
  match l,U with
  | [],_=>rfl
  | [k],_=>rfl
 ·rcases adA hn au (l.length-1) 1 (by omega) (by omega) (by
   match l,U with
   | k::l,_=>rfl) with ⟨h3,t,h4⟩|h4
  ·refine ⟨true,J5 ?_⟩
   unfold EC
   rw[bm,aA,ai (by omega)]
   refine (congrArg (fun o=>Option.bind o _) h4).trans ?_
   rw[h3];rfl
  ·refine ⟨false,J5 ?_⟩
   unfold EC
   rw[bm,aA,ai (by omega)]
   refine (congrArg (fun o=>Option.bind o _) h4).trans ?_
   rfl
theorem adC: ∃R:List Ex,CC zi [.list aa (l.map enc)]=some [.list aa (R.map enc)]∧R.Perm l∧R.Pairwise (fun x y=> ¬y.lx x):=by
 have hx: ∃L:List SX.XE,L.map SX.XE.e=l:=by
  clear hn
  induction l with
  | nil=>exact ⟨[],rfl⟩
  | cons k l ih=>
   obtain ⟨L,hL⟩:=ih fun k hk=>au k (by simp[hk])
   exact ⟨⟨k,au k (by simp)⟩::L,by rw[cG,hL]⟩
 obtain ⟨L,rfl⟩:=hx
 have he: ∀L:List SX.XE,L.map SX.XE.enc=(L.map SX.XE.e).map enc:=fun L=>by rw[List.map_map];rfl
 obtain ⟨R,e1,h1,U⟩:=SX.ads L (by rw[bm] at hn;omega)
 refine ⟨R.map SX.XE.e,?_,h1.map _,List.pairwise_map.2 U⟩
 rw[←he,←he];exact e1
theorem RI: ∃b,CC tF [.list aa (l.map enc)]=some [.bool b,.list aa ((l.foldl ft []).map enc)]:=by
 obtain ⟨R,e1,h1,U⟩:=adC hn au
 obtain ⟨b,e2⟩:=adB (l:=R) (by rw[h1.length_eq];exact hn) fun k hk=>au k (h1.mem_iff.1 hk)
 obtain ⟨c1,c2⟩:=ady U
 have hc:iE R=l.foldl ft []:=Jn c1 D8 fun x=>by rw[c2,wz,h1.mem_iff]
 rw[hc] at e2
 refine ⟨b,adw ?_⟩
 unfold RC
 refine (congrArg (fun o=>Option.bind o _) e1).trans ?_
 simp only[Option.bind_some,V.aV,V.lb]
 refine (congrArg (fun o=>Option.bind o _) e2).trans ?_
 cases b<;>rfl
end
end Go.AM
set_option maxRecDepth 100000
namespace Go.AM
open Go.Proofs
noncomputable def RJ (C:ag) (kids:List V):Option (List V):=
 (C HS [.list aa kids]).bind fun r1=>
 bif (V.nth r1 0).toBool then
  (C rI []).bind fun r2=>
  some [.int .i64 ((V.nth r2 0).toInt),.int .i64 ((V.nth (r2.drop 1) 0).toInt),.list aa ((V.nth (r2.drop 2) 0).toList)]
 else
  (C vW [.int .i64 4,.list aa kids]).bind fun r3=>
  (C DM [.list aa ((V.nth r3 0).toList)]).bind fun r4=>
  bif (V.nth r4 0).toBool then
  (C tF [.list aa ((V.nth (r4.drop 1) 0).toList)]).bind fun r5=>
  bif (V.nth r5 0).toBool then
   (C oW []).bind fun r6=>
   (C lS [.int .i64 4,.list aa ((V.nth (r5.drop 1) 0).toList),.int .i64 ((V.nth r6 0).toInt),.int .i64 ((V.nth (r6.drop 1) 0).toInt),.list aa ((V.nth (r6.drop 2) 0).toList)]).bind fun r7=>
   some [.int .i64 ((V.nth r7 0).toInt),.int .i64 ((V.nth (r7.drop 1) 0).toInt),.list aa ((V.nth ((r7.drop 1).drop 1) 0).toList)]
  else
   (C oW []).bind fun r8=>
   (C lS [.int .i64 4,.list aa ((V.nth (r5.drop 1) 0).toList),.int .i64 ((V.nth r8 0).toInt),.int .i64 ((V.nth (r8.drop 1) 0).toInt),.list aa ((V.nth (r8.drop 2) 0).toList)]).bind fun r9=>
   some [.int .i64 ((V.nth r9 0).toInt),.int .i64 ((V.nth (r9.drop 1) 0).toInt),.list aa ((V.nth ((r9.drop 1).drop 1) 0).toList)]
  else
  (C tF [.list aa ((V.nth (r4.drop 1) 0).toList)]).bind fun dR=>
  bif (V.nth dR 0).toBool then
   (C oW []).bind fun eJ=>
   (C lS [.int .i64 4,.list aa ((V.nth (dR.drop 1) 0).toList),.int .i64 ((V.nth eJ 0).toInt),.int .i64 ((V.nth (eJ.drop 1) 0).toInt),.list aa ((V.nth (eJ.drop 2) 0).toList)]).bind fun fy=>
   some [.int .i64 ((V.nth fy 0).toInt),.int .i64 ((V.nth (fy.drop 1) 0).toInt),.list aa ((V.nth ((fy.drop 1).drop 1) 0).toList)]
  else
   (C oW []).bind fun gg=>
   (C lS [.int .i64 4,.list aa ((V.nth (dR.drop 1) 0).toList),.int .i64 ((V.nth gg 0).toInt),.int .i64 ((V.nth (gg.drop 1) 0).toInt),.list aa ((V.nth (gg.drop 2) 0).toList)]).bind fun kD=>
   some [.int .i64 ((V.nth kD 0).toInt),.int .i64 ((V.nth (kD.drop 1) 0).toInt),.list aa ((V.nth ((kD.drop 1).drop 1) 0).toList)]
theorem adD {kids:List V} {r:Option (List V)} (h:RJ CC kids=r):CC Dx [.list aa kids]=r:=
 ba (key:=78) (L:=cj) (bs:=[]) (by kernel_rfl) aw (a8 (by kernel_rfl) h)
noncomputable def RK (C:ag) (kids:List V):Option (List V):=
 (C rG [.list aa kids]).bind fun r1=>
 bif (V.nth r1 0).toBool then
  (C oW []).bind fun r2=>
  some [.int .i64 ((V.nth r2 0).toInt),.int .i64 ((V.nth (r2.drop 1) 0).toInt),.list aa ((V.nth (r2.drop 2) 0).toList)]
 else
  (C vW [.int .i64 5,.list aa kids]).bind fun r3=>
  (C DK [.list aa ((V.nth r3 0).toList)]).bind fun r4=>
  bif (V.nth r4 0).toBool then
  (C tE []).bind fun r5=>
  (C lS [.int .i64 5,.list aa ((V.nth (r4.drop 1) 0).toList),.int .i64 ((V.nth r5 0).toInt),.int .i64 ((V.nth (r5.drop 1) 0).toInt),.list aa ((V.nth (r5.drop 2) 0).toList)]).bind fun r6=>
  some [.int .i64 ((V.nth r6 0).toInt),.int .i64 ((V.nth (r6.drop 1) 0).toInt),.list aa ((V.nth ((r6.drop 1).drop 1) 0).toList)]
  else
  (C tE []).bind fun r7=>
  (C lS [.int .i64 5,.list aa ((V.nth (r4.drop 1) 0).toList),.int .i64 ((V.nth r7 0).toInt),.int .i64 ((V.nth (r7.drop 1) 0).toInt),.list aa ((V.nth (r7.drop 2) 0).toList)]).bind fun r8=>
  some [.int .i64 ((V.nth r8 0).toInt),.int .i64 ((V.nth (r8.drop 1) 0).toInt),.list aa ((V.nth ((r8.drop 1).drop 1) 0).toList)]
theorem adE {kids:List V} {r:Option (List V)} (h:RK CC kids=r):CC Dy [.list aa kids]=r:=
 ba (key:=79) (L:=cj) (bs:=[]) (by kernel_rfl) aw (a8 (by kernel_rfl) h)
noncomputable def RL (C:ag) (kids:List V):Option (List V):=
 (C rG [.list aa kids]).bind fun r1=>
 bif (V.nth r1 0).toBool then
  (C oW []).bind fun r2=>
  some [.int .i64 ((V.nth r2 0).toInt),.int .i64 ((V.nth (r2.drop 1) 0).toInt),.list aa ((V.nth (r2.drop 2) 0).toList)]
 else
  (C vW [.int .i64 6,.list aa kids]).bind fun r3=>
  (C vV [.list aa ((V.nth r3 0).toList)]).bind fun r4=>
  bif (V.nth r4 0).toBool then
  (C tF [.list aa ((V.nth (r4.drop 1) 0).toList)]).bind fun r5=>
  bif (V.nth r5 0).toBool then
   (C rI []).bind fun r6=>
   (C lS [.int .i64 6,.list aa ((V.nth (r5.drop 1) 0).toList),.int .i64 ((V.nth r6 0).toInt),.int .i64 ((V.nth (r6.drop 1) 0).toInt),.list aa ((V.nth (r6.drop 2) 0).toList)]).bind fun r7=>
   some [.int .i64 ((V.nth r7 0).toInt),.int .i64 ((V.nth (r7.drop 1) 0).toInt),.list aa ((V.nth ((r7.drop 1).drop 1) 0).toList)]
  else
   (C rI []).bind fun r8=>
   (C lS [.int .i64 6,.list aa ((V.nth (r5.drop 1) 0).toList),.int .i64 ((V.nth r8 0).toInt),.int .i64 ((V.nth (r8.drop 1) 0).toInt),.list aa ((V.nth (r8.drop 2) 0).toList)]).bind fun r9=>
   some [.int .i64 ((V.nth r9 0).toInt),.int .i64 ((V.nth (r9.drop 1) 0).toInt),.list aa ((V.nth ((r9.drop 1).drop 1) 0).toList)]
  else
  (C tF [.list aa ((V.nth (r4.drop 1) 0).toList)]).bind fun dR=>
  bif (V.nth dR 0).toBool then
   (C rI []).bind fun eJ=>
   (C lS [.int .i64 6,.list aa ((V.nth (dR.drop 1) 0).toList),.int .i64 ((V.nth eJ 0).toInt),.int .i64 ((V.nth (eJ.drop 1) 0).toInt),.list aa ((V.nth (eJ.drop 2) 0).toList)]).bind fun fy=>
   some [.int .i64 ((V.nth fy 0).toInt),.int .i64 ((V.nth (fy.drop 1) 0).toInt),.list aa ((V.nth ((fy.drop 1).drop 1) 0).toList)]
  else
   (C rI []).bind fun gg=>
   (C lS [.int .i64 6,.list aa ((V.nth (dR.drop 1) 0).toList),.int .i64 ((V.nth gg 0).toInt),.int .i64 ((V.nth (gg.drop 1) 0).toInt),.list aa ((V.nth (gg.drop 2) 0).toList)]).bind fun kD=>
   some [.int .i64 ((V.nth kD 0).toInt),.int .i64 ((V.nth (kD.drop 1) 0).toInt),.list aa ((V.nth ((kD.drop 1).drop 1) 0).toList)]
theorem adF {kids:List V} {r:Option (List V)} (h:RL CC kids=r):CC Dz [.list aa kids]=r:=
 ba (key:=80) (L:=cj) (bs:=[]) (by kernel_rfl) aw (a8 (by kernel_rfl) h)
noncomputable def J6 (C:ag) (op:Int) (kids:List V):Option (List V):=
 bif (op:Int)==4 then
  (C Dx [.list aa kids]).bind fun r1=>
  some [.int .i64 ((V.nth r1 0).toInt),.int .i64 ((V.nth (r1.drop 1) 0).toInt),.list aa ((V.nth ((r1.drop 1).drop 1) 0).toList)]
 else
  bif (op:Int)==5 then
  (C Dy [.list aa kids]).bind fun r2=>
  some [.int .i64 ((V.nth r2 0).toInt),.int .i64 ((V.nth (r2.drop 1) 0).toInt),.list aa ((V.nth ((r2.drop 1).drop 1) 0).toList)]
  else
  bif (op:Int)==6 then
   (C Dz [.list aa kids]).bind fun r3=>
   some [.int .i64 ((V.nth r3 0).toInt),.int .i64 ((V.nth (r3.drop 1) 0).toInt),.list aa ((V.nth ((r3.drop 1).drop 1) 0).toList)]
  else
   bif ((kids.length:Int):Int) != 1 then
   some [.int .i64 0,.int .i64 0,.list aa ([]:List V)]
   else
   (kids[0]?).bind fun x4=>
   bif (op:Int)==8 then
    bif (((x4.cell 0).toInt):Int)==8 then
    bif ((((x4.cell 2).toList).length:Int):Int)==1 then
     (((x4.cell 2).toList)[0]?).bind fun x5=>
     some [.int .i64 ((x5.cell 0).toInt),.int .i64 ((x5.cell 1).toInt),.list aa ((x5.cell 2).toList)]
    else
     some [.int .i64 8,.int .i64 0,.list aa ([.agg [.int .i64 ((x4.cell 0).toInt),.int .i64 ((x4.cell 1).toInt),.list aa ((x4.cell 2).toList)]]:List V)]
    else
    some [.int .i64 8,.int .i64 0,.list aa ([.agg [.int .i64 ((x4.cell 0).toInt),.int .i64 ((x4.cell 1).toInt),.list aa ((x4.cell 2).toList)]]:List V)]
   else
    bif (op:Int)==7 then
    bif (((x4.cell 0).toInt):Int)==1 then
     (C tE []).bind fun r6=>
     some [.int .i64 ((V.nth r6 0).toInt),.int .i64 ((V.nth (r6.drop 1) 0).toInt),.list aa ((V.nth (r6.drop 2) 0).toList)]
    else
     bif (((x4.cell 0).toInt):Int)==2 then
     (C tE []).bind fun r7=>
     some [.int .i64 ((V.nth r7 0).toInt),.int .i64 ((V.nth (r7.drop 1) 0).toInt),.list aa ((V.nth (r7.drop 2) 0).toList)]
     else
     bif (((x4.cell 0).toInt):Int)==7 then
      some [.int .i64 ((x4.cell 0).toInt),.int .i64 ((x4.cell 1).toInt),.list aa ((x4.cell 2).toList)]
     else
      (C lQ [.int .i64 ((x4.cell 0).toInt),.int .i64 ((x4.cell 1).toInt),.list aa ((x4.cell 2).toList)]).bind fun r8=>
      bif (V.nth r8 0).toBool then
      some [.int .i64 ((x4.cell 0).toInt),.int .i64 ((x4.cell 1).toInt),.list aa ((x4.cell 2).toList)]
      else
      some [.int .i64 7,.int .i64 0,.list aa ([.agg [.int .i64 ((x4.cell 0).toInt),.int .i64 ((x4.cell 1).toInt),.list aa ((x4.cell 2).toList)]]:List V)]
    else
    some [.int .i64 0,.int .i64 0,.list aa ([]:List V)]
theorem RM {op:Int} {kids:List V} {r:Option (List V)} (h:J6 CC op kids=r):CC jR [.int .i64 op,.list aa kids]=r:=
 ba (key:=69) (L:=cj) (bs:=[]) (by kernel_rfl) aw (a8 (by kernel_rfl) h)
noncomputable abbrev RN:Code:=cP Try.prog (az.aZ 59)
noncomputable def Au (C:ag) (t20:List V) (t21 fZ eP:Int) (eb:List V) (Av Aw:Int) (bJ:List V) (t22:Int) (xc:List V) {β:Type} (kn:(Int × (List V))→Option β) (kr:(Int × Bool × (List V))→Option β):Option β:=
 bif decide ((t22:Int)<t21) then
  (idx t20 t22).bind fun x1=>
  (C tD [.int .i64 ((x1.cell 0).toInt),.int .i64 ((x1.cell 1).toInt),.list aa ((x1.cell 2).toList)]).bind fun r2=>
  bif (decide (0≤t22))&&(decide (t22<(xc.length:Int))) then
  (xc[(t22:Int).toNat]?).bind fun x3=>
  kn (IntKind.wrap .i64 (t22+1),xc.set ((t22:Int).toNat) (.agg [.int .i64 ((V.nth r2 0).toInt),.int .i64 ((V.nth (r2.drop 1) 0).toInt),.list aa ((V.nth ((r2.drop 1).drop 1) 0).toList)]))
  else none
 else
  kr (t22,decide ((t22:Int)<t21),xc)
noncomputable def ED (C:ag) (t20:List V) (t21 fZ eP:Int) (eb:List V) (Av Aw:Int) (bJ:List V):(Int × (List V))→Option ((Int × (List V)) ⊕ (Int × Bool × (List V))):=un fun t22 xc=>Au C t20 t21 fZ eP eb Av Aw bJ t22 xc (fun y=>some (.inl y)) (fun r=>some (.inr r))
noncomputable def RO (C:ag):cC:=fun β n ds k=>
 bif Nat.beq n 81 then ch Ic [false,false,true,false,false,false,false,false,true,false] [[1,2,0,0,4,5,6,7,8,0,10]] (@Au C) ds k else
 none
abbrev adG (C:ag) (b:cx):Prop:=cy Try.prog az C (RO C) 59 (cT Try.prog (az.aZ 59)) (az.sin 59).aY.length b
theorem adH (C:ag):adG C (.loop (av [1,1,1,0,1,0,0] RN)):=
 ct Ic [false,false,true,false,false,false,false,false,true,false] [[1,2,0,0,4,5,6,7,8,0,10]] (@Au C) (by kernel_rfl) (bf (bs:=[]) (by kernel_rfl) aw) (fun ds=>by kernel_rfl) (fun i x=>by kernel_rfl) (fun i x β k=>by kernel_rfl) (fun β ds k=>by kernel_rfl)
noncomputable def RP (C:ag) (ah ar:Int) (ae:List V):Option (List V):=
 bif ((ae.length:Int):Int)==0 then
  some [.int .i64 ah,.int .i64 ar,.list aa ([]:List V)]
 else
  bif (decide (0≤(ae.length:Int)))&&((decide ((ae.length:Int)≤(ae.length:Int)))&&(Nat.ble ((((ae.length:Int):Int).toNat)*40) cB)) then
  (Loop (ED C ae (ae.length:Int) ah ar ae 0 0 ([]:List V)) (0,List.replicate (((ae.length:Int):Int).toNat) (V.agg [.int .i64 0,.int .i64 0,.list aa ([]:List V)]))).bind (un fun (lX:Int)=>un fun (o0:Bool) (adI:List V)=>
   (C jR [.int .i64 ah,.list aa adI]).bind fun r7=>
   some [.int .i64 ((V.nth r7 0).toInt),.int .i64 ((V.nth (r7.drop 1) 0).toInt),.list aa ((V.nth ((r7.drop 1).drop 1) 0).toList)])
  else none
theorem adJ {ah ar:Int} {ae:List V} {r:Option (List V)} (h:RP CC ah ar ae=r):CC tD [.int .i64 ah,.int .i64 ar,.list aa ae]=r:=
 ba (key:=59) (L:=RO CC) (bs:=[.loop (av [1,1,1,0,1,0,0] RN)]) (by kernel_rfl) (bG (adH CC) aw) (a8 (by kernel_rfl) h)
noncomputable def RQ (C:ag) (ah ar:Int) (ae:List V):Option (List V):=
 (C zf [.int .i64 ah,.int .i64 ar,.list aa ae]).bind fun r1=>
 bif !((V.nth r1 0).toBool) then
  some [.int .i64 0,.int .i64 0,.list aa ([]:List V)]
 else
  (C tD [.int .i64 ah,.int .i64 ar,.list aa ae]).bind fun r2=>
  some [.int .i64 ((V.nth r2 0).toInt),.int .i64 ((V.nth (r2.drop 1) 0).toInt),.list aa ((V.nth ((r2.drop 1).drop 1) 0).toList)]
theorem adK {ah ar:Int} {ae:List V} {r:Option (List V)} (h:RQ CC ah ar ae=r):CC Dq [.int .i64 ah,.int .i64 ar,.list aa ae]=r:=
 ba (key:=41) (L:=cj) (bs:=[]) (by kernel_rfl) aw (a8 (by kernel_rfl) h)
end Go.AM
set_option maxRecDepth 100000
namespace Go.AM
open Go.Proofs Ex
theorem ur:CC oW []=some (gW dX):=aaI rfl
theorem EE:CC tE []=some (gW iR):=aaK rfl
theorem Ax:CC rI []=some (gW iS):=by
 refine aaL ?_
 unfold PU
 refine bs ur ?_
 simp[gW,dX,iS,Ex.op,Ex.cE,Ex.kids,en]
theorem RR (o:Int) (l:List Ex):(l.filter fun k=> !(decide (k.op=o)))=l.filter fun k=>decide (k.op≠o):=by
 congr 1;funext k;simp
theorem RS {ks:List Ex} (hlen:ks.length≤1000000):CC rG [.list aa (ks.map enc)]=some [.bool (ks.any fun k=>decide (k.op=1))]:=abA hlen
theorem adL {ks:List Ex} (hn:ks.length≤1000000): ∃b,CC DM [.list aa (ks.map enc)]=some [.bool b,.list aa ((ks.filter (fun k=>decide (k.op≠1))).map enc)]:=by
 rw[←RR];exact abC hn
theorem adM {ks:List Ex} (hn:ks.length≤1000000): ∃b,CC DK [.list aa (ks.map enc)]=some [.bool b,.list aa ((ks.filter (fun k=>decide (k.op≠2))).map enc)]:=by
 rw[←RR];exact abG hn
theorem RT {o:Int} {ks:List Ex} (h: ∀k∈ks,k.Ok): ∀k∈bD o ks,k.Ok:=fun x hx=>by
 obtain ⟨k,h1,U|U⟩:=mW.1 hx
 ·have:=h k h1
  obtain ⟨o2,l2,lf⟩:=k
  exact this.oc x U.2
 ·rw[U.2];exact h k h1
theorem adN {n:Int} {ks:List Ex} (hk: ∀k∈ks,Gd n k) (hs:aK ks≤1000000):CC Dy [.list aa (ks.map enc)]=some (gW (dh 5 0 ks)):=by
 have hl:=o9 ks
 have a1:=wq 5 ks
 have a2:=o9 (bD 5 ks)
 refine adE ?_
 unfold RK
 rw[tQ,Jx hk]
 refine bs (RS (by omega)) ?_
 cases hu:ks.any fun k=>decide (k.op=1) with
 | true=>
  refine bT rfl ?_
  refine bs ur ?_
  rfl
 | false=>
  refine bF rfl ?_
  refine bs (Jl (by omega) (by omega)) ?_
  obtain ⟨b,e⟩:=adM (ks:=bD 5 ks) (by omega)
  refine bs e ?_
  cases b
  ·exact bF rfl (bs EE (bs (o8 (z:=iR)) rfl))
  ·exact bT rfl (bs EE (bs (o8 (z:=iR)) rfl))
section
variable {n:Int} {ks:List Ex} (hk: ∀k∈ks,Gd n k) (au: ∀k∈ks,k.Ok) (hs:aK ks≤1000000)
include hk au hs
theorem adO:CC Dx [.list aa (ks.map enc)]=some (gW (dh 4 0 ks)):=by
 have hl:=o9 ks
 have a1:=wq 4 ks
 have a2:=o9 (bD 4 ks)
 refine adD ?_
 unfold RJ
 rw[wu,Qa hk]
 refine bs (abI (by omega)) ?_
 cases hu:ks.any univ with
 | true=>
  refine bT rfl ?_
  refine bs Ax ?_
  rfl
 | false=>
  refine bF rfl ?_
  refine bs (Jl (by omega) (by omega)) ?_
  obtain ⟨b,e⟩:=adL (ks:=bD 4 ks) (by omega)
  refine bs e ?_
  obtain ⟨b2,e2⟩:=RI (l:=(bD 4 ks).filter fun k=>decide (k.op≠1)) (by have:=su (fun k:Ex=>decide (k.op≠1)) (bD 4 ks);omega) fun k h=>RT au k (ny.1 h).1
  cases b
  ·refine bF rfl ?_
   refine bs e2 ?_
   cases b2
   ·exact bF rfl (bs ur (bs (o8 (z:=dX)) rfl))
   ·exact bT rfl (bs ur (bs (o8 (z:=dX)) rfl))
  ·refine bT rfl ?_
   refine bs e2 ?_
   cases b2
   ·exact bF rfl (bs ur (bs (o8 (z:=dX)) rfl))
   ·exact bT rfl (bs ur (bs (o8 (z:=dX)) rfl))
theorem adP:CC Dz [.list aa (ks.map enc)]=some (gW (dh 6 0 ks)):=by
 have hl:=o9 ks
 have a1:=wq 6 ks
 have a2:=o9 (bD 6 ks)
 refine adF ?_
 unfold RL
 rw[zL,aa4 hk]
 refine bs (RS (by omega)) ?_
 cases hu:ks.any fun k=>decide (k.op=1) with
 | true=>
  refine bT rfl ?_
  refine bs ur ?_
  rfl
 | false=>
  refine bF rfl ?_
  refine bs (Jl (by omega) (by omega)) ?_
  obtain ⟨b,e⟩:=abK (ks:=bD 6 ks) (by omega)
  refine bs e ?_
  obtain ⟨b2,e2⟩:=RI (l:=(bD 6 ks).filter fun k=> !(univ k)) (by have:=su (fun k:Ex=> !(univ k)) (bD 6 ks);omega) fun k h=>RT au k (ny.1 h).1
  cases b
  ·refine bF rfl ?_
   refine bs e2 ?_
   cases b2
   ·exact bF rfl (bs Ax (bs (o8 (z:=iS)) rfl))
   ·exact bT rfl (bs Ax (bs (o8 (z:=iS)) rfl))
  ·refine bT rfl ?_
   refine bs e2 ?_
   cases b2
   ·exact bF rfl (bs Ax (bs (o8 (z:=iS)) rfl))
   ·exact bT rfl (bs Ax (bs (o8 (z:=iS)) rfl))
theorem qF {o:Int} (ho:o=4∨o=5∨o=6):CC jR [.int .i64 o,.list aa (ks.map enc)]=some (gW (dh o 0 ks)):=by
 refine RM ?_
 unfold J6
 rcases ho with rfl|rfl|rfl
 ·exact bT rfl (bs (adO hk au hs) rfl)
 ·exact bF rfl (bT rfl (bs (adN hk hs) rfl))
 ·exact bF rfl (bF rfl (bT rfl (bs (adP hk au hs) rfl)))
end
theorem J7 (k:Ex):[V.agg [.int .i64 k.op,.int .i64 k.cE,.list aa (k.kids.map enc)]]=[k].map enc:=by rw[←en];rfl
theorem EF {n o:Int} {k:Ex} (hk:Gd n k) (ho:o=7∨o=8):CC jR [.int .i64 o,.list aa ([k].map enc)]=some (gW (dh o 0 [k])):=by
 refine RM ?_
 unfold J6
 rcases ho with rfl|rfl
 ·refine bF rfl (bF rfl (bF rfl (bF rfl (bs (a:=k.enc) rfl (bF rfl (bT rfl ?_))))))
  rw[zM,bw,bx,bz,e7,e7,e7]
  by_cases h1:k.op=1
  ·rw[ak h1,ak (.inl h1)];exact bs EE rfl
  ·rw[ai h1]
   by_cases U:k.op=2
   ·rw[ak U,ak (.inr U)];exact bs EE rfl
   ·rw[ai U,ai (show¬(k.op=1∨k.op=2) by omega)]
    by_cases h7:k.op=7
    ·rw[ak h7,ak (.inl h7)];rfl
    ·rw[ai h7]
     refine bs (zQ k) ?_
     cases hu:univ k with
     | true=>rw[ak (.inr rfl)];exact bT rfl rfl
     | false=>
      rw[ai (by rintro (h|h);exact h7 h;cases h)]
      refine bF rfl ?_
      rw[J7];rfl
 ·refine bF rfl (bF rfl (bF rfl (bF rfl (bs (a:=k.enc) rfl (bT rfl ?_)))))
  rw[wv,bw,bx,bz,e7]
  by_cases h8:k.op=8
  ·rw[ak h8,ak h8]
   have hs:=ez hk.shape
   obtain ⟨o2,l2,lf⟩:=k
   simp only[Ex.op,Ex.kids,Ex.cE] at*
   match lf,(show (lf.length:Int)=1 by omega) with
   | [x],_=>
    refine bT (by simp) (bs (a:=x.enc) rfl ?_)
    rw[bw,bx,bz];rfl
  ·rw[ai h8,ai h8,J7];rfl
theorem RU {α:Type} (a:List α) (x y:α) (b:List α) {i:Nat} (h:i=a.length):(a++x::b).set i y=(a++[y])++b:=by
 subst h;simp[List.set_append_right]
theorem adQ {ks:List Ex} {a b c d:Int} {l1 l2:List V} (hn:ks.length≤1000000) (ih: ∀k∈ks,CC tD (bW k [])=some (gW (aO k))):
  ∀(aH pre:List Ex),ks=pre++aH→∃t,Loop (ED CC (ks.map enc) ((ks.map enc).length:Int) a b l1 c d l2) (((pre.length:Nat):Int),(pre.map aO).map enc++List.replicate aH.length (V.agg [.int .i64 0,.int .i64 0,.list aa ([]:List V)]))=some (((ks.map enc).length:Int),t,(ks.map aO).map enc):=by
 intro aH
 induction aH with
 | nil=>
  intro pre e
  rw[dy] at e
  subst e
  refine ⟨false,bc ?_⟩
  simp only[ED,Au,un,bm]
  rw[aA,ai (by omega),cS (by omega)]
  simp
 | cons k aH ga=>
  intro pre e
  have bL:pre.length<ks.length:=by rw[e];simp
  have b8:idx (ks.map enc) (pre.length:Int)=some k.enc:=by rw[e];exact jT _ _ _
  obtain ⟨t,ht⟩:=ga (pre++[k]) (by simp[e])
  refine ⟨t,(bV ?_).trans ht⟩
  simp only[ED,Au,un,bm]
  rw[aA,ak (by omega),b8]
  simp only[Option.bind_some,bw,bx,bz]
  refine bs (ih k (by rw[e];simp)) ?_
  refine bT (by simp only[aI,dJ,ca,bm,sm,List.length_cons];omega) ?_
  refine bs (a:=V.agg [.int .i64 0,.int .i64 0,.list aa ([]:List V)]) ?_ ?_
  ·rw[Int.toNat_natCast,hO (by simp)]
   simp
  ·rw[wrap64 (by omega) (by omega),Int.toNat_natCast,List.length_cons,List.replicate_succ,RU _ _ _ _ (by simp)]
   show some (Sum.inl _)=some (Sum.inl _)
   refine congrArg (fun x=>some (Sum.inl x)) (Prod.ext ?_ ?_)
   ·simp
   ·simp only[fQ,cG,gl]
    rw[en (aO k)];rfl
theorem RV {n:Int} (hn:n≤6): ∀e:Ex,e.wf n=true→e.size≤1000000→CC tD (bW e [])=some (gW (aO e)):=
 ind fun o l ks ih hw hs=>by
  obtain ⟨h1,U⟩:=gX hw
  have hl:=o9 ks
  simp only[size] at hs
  have h3:=ez h1
  refine adJ ?_
  unfold RP
  simp only[Ex.op,Ex.kids,Ex.cE,bm,e7]
  rw[lh]
  by_cases h0:ks=[]
  ·subst h0
   rw[ak (by simp),lg (by simp only[List.length_nil] at h3;omega)]
   rfl
  ·have hp:0<ks.length:=Bk.2 h0
   rw[ai (by omega)]
   refine bT (by simp only[aI,dJ,dK,qs,Int.toNat_natCast];omega) ?_
   obtain ⟨t,ht⟩:=adQ (a:=o) (b:=l) (c:=0) (d:=0) (l1:=ks.map enc) (l2:=[]) (ks:=ks) (by omega) (fun k hk=>ih k hk (U k hk) (by have:=zK hk;omega)) ks [] rfl
   rw[bm] at ht
   refine bs ht ?_
   have hg: ∀k∈ks.map aO,Gd n k:=fun x hx=>by
    obtain ⟨k,hk,rfl⟩:=fP.1 hx
    exact lY k (U k hk)
   have hz:aK (ks.map aO)≤aK ks:=by
    clear ht h3 h1 hw ih hp h0 hl hs hg
    induction ks with
    | nil=>simp[aK]
    | cons k ks ih=>have a:=zN k (U k (by simp));have b:=ih fun k hk=>U k (by simp[hk]);simp only[cG,aK];omega
   have au: ∀k∈ks.map aO,k.Ok:=fun k hk=>tR hn k (hg k hk).2 (by have:=zK hk;omega)
   rcases (show (o=4∨o=5∨o=6)∨(o=7∨o=8) by omega) with ho|ho
   ·obtain rfl:l=0:=by omega
    exact bs (qF hg au (by omega) ho) rfl
   ·obtain rfl:l=0:=by omega
    have h5:ks.length=1:=by omega
    match ks,h5 with
    | [k],_=>exact bs (EF (hg (aO k) (by simp)) ho) rfl
theorem adR (e:Ex) (h:e.Ok):CC Dq (bW e [])=some (gW (if e.val 6=0 then aO e else aT)):=by
 refine adK ?_
 unfold RQ
 refine bs (P6 e h) ?_
 by_cases hv:e.val 6=0
 ·have:=qw hv
  rw[ak hv]
  refine bF (by simp[hv]) ?_
  exact bs (RV (by omega) e this.2.2 (by omega)) rfl
 ·rw[ai hv]
  refine bT (by simp[hv]) ?_
  rfl
end Go.AM
set_option maxRecDepth 100000
namespace Go.AM
open Go.Proofs
def tab {α:Type} (n:Nat) (g:Nat→α):List α:=(List.range n).map g
section
variable {α β:Type} {n i:Nat} {g h:Nat→α}
@[simp] theorem ahz:(tab n g).length=n:=by simp[tab]
end
section
variable {γ:Type} {n i:Nat} {g:Nat→V}
theorem r0 {es:List V} {v:V} (hi:es[i]? =some v) {K:V→Option γ}:(bif (decide (0≤(i:Int)))&&(decide ((i:Int)<(es.length:Int))) then (es[((i:Int)).toNat]?).bind K else none)=K v:=by
 have hl:i<es.length:=by
  rcases ot i es.length with h|h
  ·exact h
  ·rw[xr h] at hi;cases hi
 rw[Int.toNat_natCast,hi,uB.2 ⟨eo (by omega),eo (by omega)⟩]
 rfl
end
theorem cap {a b m:Nat} (h:a+b≤10000000) (hm:m≤1000):Nat.ble ((a+b)*m) cB=true:=by
 rw[dK,qs]
 have:=Nat.mul_le_mul h hm
 omega
theorem adS {n m:Nat} (h:n≤10000000) (hm:m≤1000):((decide (0≤(n:Int)))&&((decide ((n:Int)≤(n:Int)))&&(Nat.ble (((n:Int).toNat)*m) cB)))=true:=by
 have U:=Nat.mul_le_mul h hm
 rw[Int.toNat_natCast]
 refine uB.2 ⟨eo (by omega),uB.2 ⟨eo (by omega),?_⟩⟩
 rw[dK,qs]
 omega
theorem me {i:Nat} (h:i≤1000000000):IntKind.wrap .i64 ((i:Int)+1)=((i+1:Nat):Int):=by rw[wrap64 (by omega) (by omega)];omega
theorem sa {i n:Nat} (h:i<n):decide ((i:Int)<(n:Int))=true:=eo (by omega)
section
variable {X R:Type} {step:X→Option (X ⊕ R)}
theorem RW (n:Nat) (s:Nat→X) (r:R) (h: ∀i,i<n→step (s i)=some (.inl (s (i+1)))) (he:step (s n)=some (.inr r)):Loop step (s 0)=some r:=XU s n h he
end
end Go.AM
set_option maxRecDepth 100000
namespace Go.AM
open Go.Proofs Ex
abbrev zE:V:= .agg [.int .i64 0,.int .i64 0,.list aa ([]:List V)]
theorem sb {α:Type} {A:List V} {n:Nat} {z:V} {i:Nat} (h:i=A.length) {K:V→Option α}:(bif (decide (0≤(i:Int)))&&(decide ((i:Int)<((A++List.replicate (n+1) z).length:Int))) then ((A++List.replicate (n+1) z)[((i:Int)).toNat]?).bind K else none)=K z:=by
 refine r0 ?_
 rw[h,hO (bX _)]
 simp
theorem sc {A:List V} {n:Nat} {z v:V} {i:Nat} (h:i=A.length):(A++List.replicate (n+1) z).set i v=A++[v]++List.replicate n z:=by
 rw[List.replicate_succ,RU _ _ _ _ h]
theorem RX (a:Ex):V.agg [.int .i64 a.op,.int .i64 a.cE,.list aa (a.kids.map enc)]=a.enc:=(en a).symm
theorem J8 {n:Nat} (h:n≤1000000):Nat.ble (n*40) cB=true:=by rw[dK,qs];omega
theorem EG {n:Nat} (h:n≤1000000):((decide (0≤(n:Int)))&&((decide ((n:Int)≤(n:Int)))&&(Nat.ble (((n:Int).toNat)*40) cB)))=true:=adS (by omega) (by omega)
def oneOf (o:Int):List Ex→Ex
 | [k]=>k
 | l=> .node o 0 l
mutual
def bP (c:Int):Ex→Ex
 | .node o l ks=>
  if o=3 then (if l=c then iR else dX)
  else if o=4∨o=6∨o=8 then .node o 0 (xd c ks)
  else if o=7 then .node 5 0 [(xd c ks).getD 0 aT,.node o l ks]
  else if o=5 then oneOf 4 (iF c ks)
  else dX
def xd (c:Int):List Ex→List Ex
 | []=>[]
 | k::ks=>bP c k::xd c ks
def iF (c:Int):List Ex→List Ex
 | []=>[]
 | k::ks=>oneOf 5 (bP c k::ks)::(if k.b6=true then iF c ks else [])
end
theorem RY {c:Int}: ∀ks,xd c ks=ks.map (bP c)
 | []=>by simp only[xd,gl]
 | k::ks=>by simp only[xd,cG,RY ks]
theorem xe {c o l:Int} {ks:List Ex}:bP c (.node o l ks)=if o=3 then (if l=c then iR else dX) else if o=4∨o=6∨o=8 then .node o 0 (ks.map (bP c)) else if o=7 then .node 5 0 [(ks.map (bP c)).getD 0 aT,.node o l ks] else if o=5 then oneOf 4 (iF c ks) else dX:=by
 rw[bP,RY]
theorem EH {c:Int} {k:Ex} {ks:List Ex}:iF c (k::ks)=oneOf 5 (bP c k::ks)::(if k.b6=true then iF c ks else []):=by rw[iF]
theorem adT {o:Int} {k:Ex} {l:List Ex}:oneOf o (k::l)=if l=[] then k else .node o 0 (k::l):=by
 cases l with
 | nil=>rfl
 | cons x l=>rw[ai (by simp)];rfl
theorem RZ {n:Int}:dX.wf n=true:=rQ (by simp[dg]) (by simp)
theorem adU {n:Int}:iR.wf n=true:=rQ (by simp[dg]) (by simp)
theorem adV {n o l len:Int} (h:dg o l len n=true) (ho:o=4∨o=6∨o=8):dg o 0 len n=true:=by
 rcases ez h with h|⟨rfl,h⟩
 ·omega
 ·assumption
theorem R0 {n:Int} {o:Int} (ho:o=4∨o=5) {len:Int} (h:2≤len):dg o 0 len n=true:=by
 unfold dg
 rcases ho with rfl|rfl<;>simp[h]
theorem R3 {n:Int} {o:Int} (ho:o=4∨o=5) {l:List Ex} (hl:l≠[]) (h: ∀k∈l,k.wf n=true):(oneOf o l).wf n=true:=by
 match l,hl with
 | [k],_=>exact h k (by simp)
 | k::k2::l,_=>exact rQ (R0 ho (by simp only[List.length_cons];omega)) h
theorem R4 {c:Int} {ks:List Ex} (h:ks≠[]):iF c ks≠[]:=by
 cases ks with
 | nil=>exact absurd rfl h
 | cons k ks=>rw[EH];simp
theorem EI {n c:Int}: ∀{ks:List Ex},(∀k∈ks,k.wf n=true)→(∀k∈ks,(bP c k).wf n=true)→∀x∈iF c ks,x.wf n=true
 | [],_,_,x,hx=>by rw[iF] at hx;cases hx
 | k::ks,h1,U,x,hx=>by
  rw[EH] at hx
  rcases c8.1 hx with rfl|hx
  ·refine R3 (.inr rfl) (by simp) fun y hy=> ?_
   rcases c8.1 hy with rfl|hy
   ·exact U k (by simp)
   ·exact h1 y (by simp[hy])
  ·split at hx
   ·exact EI (fun y hy=>h1 y (by simp[hy])) (fun y hy=>U y (by simp[hy])) x hx
   ·cases hx
theorem sd {n c:Int}: ∀e:Ex,e.wf n=true→(bP c e).wf n=true:=ind fun o l ks ih hw=>by
 obtain ⟨h1,U⟩:=gX hw
 have hk: ∀k∈ks,(bP c k).wf n=true:=fun k hk=>ih k hk (U k hk)
 rw[xe]
 split
 ·split
  ·exact adU
  ·exact RZ
 split
 ·next _ ho=>
  refine rQ (by rw[bm];exact adV h1 ho) fun x hx=> ?_
  obtain ⟨k,lN,rfl⟩:=fP.1 hx
  exact hk k lN
 split
 ·next _ _ ho=>
  subst ho
  have hl:ks.length=1:=by rcases ez h1 with h|⟨_,h|h|h|h|h|h|h⟩<;>omega
  obtain ⟨k,rfl⟩:=uC.1 hl
  refine rQ (R0 (.inr rfl) (by simp)) fun x hx=> ?_
  rcases c8.1 hx with rfl|hx
  ·exact hk k (by simp)
  ·rw[dB.1 hx];exact hw
 split
 ·next _ _ _ ho=>
  subst ho
  have hl:2≤ks.length:=by rcases ez h1 with h|⟨_,h|h|h|h|h|h|h⟩<;>omega
  exact R3 (.inl rfl) (R4 (by intro h;rw[h] at hl;simp at hl)) (EI U hk)
 ·exact RZ
theorem R5 {o:Int} {l:List Ex}:(oneOf o l).size≤1+aK l:=by
 match l with
 | []=>simp[oneOf,size,aK]
 | [k]=>simp[oneOf,aK]
 | k::k2::l=>simp[oneOf,size]
theorem J9 {f:Ex→Ex}: ∀{ks:List Ex},(∀k∈ks,(f k).size≤k.size*k.size)→aK (ks.map f)≤aK ks*aK ks
 | [],_=>by simp[aK]
 | k::ks,h=>by
  have ih:=J9 (f:=f) (ks:=ks) fun x hx=>h x (by simp[hx])
  have hk:=h k (by simp)
  simp only[cG,aK,c7,Nat.mul_add]
  omega
theorem Ka {c:Int}: ∀{ks:List Ex},(∀k∈ks,(bP c k).size≤k.size*k.size)→1+aK (iF c ks)≤(1+aK ks)*(1+aK ks)
 | [],_=>by rw[iF];simp[aK]
 | k::ks,h=>by
  have ih:=Ka (c:=c) (ks:=ks) fun x hx=>h x (by simp[hx])
  have hk:=h k (by simp)
  have h1:(oneOf 5 (bP c k::ks)).size≤1+((bP c k).size+aK ks):=R5
  have hp:=k.size_pos
  have U:aK (if k.b6=true then iF c ks else [])≤aK (iF c ks):=by
   split
   ·exact bX _
   ·simp[aK]
  have h3:1*aK ks≤k.size*aK ks:=dk _ hp
  have h4:aK ks*k.size=k.size*aK ks:=nt _ _
  rw[EH]
  simp only[aK,c7,Nat.mul_add] at*
  omega
theorem R6 {c:Int}: ∀e:Ex,(∀n,e.wf n=true→(bP c e).size≤e.size*e.size):=ind fun o l ks ih n hw=>by
 obtain ⟨h1,U⟩:=gX hw
 have hk: ∀k∈ks,(bP c k).size≤k.size*k.size:=fun k hk=>ih k hk n (U k hk)
 have h3:1*1≤(Ex.node o l ks).size*(Ex.node o l ks).size:=Nat.mul_le_mul (size_pos _) (size_pos _)
 rw[xe]
 split
 ·split
  ·exact h3
  ·exact h3
 split
 ·have:=J9 hk
  simp only[size,c7,Nat.mul_add] at*
  omega
 split
 ·next _ _ ho=>
  subst ho
  have hl:ks.length=1:=by rcases ez h1 with h|⟨_,h|h|h|h|h|h|h⟩<;>omega
  obtain ⟨k,rfl⟩:=uC.1 hl
  have:=hk k (by simp)
  have hp:=k.size_pos
  simp only[cG,gl,xB,size,aK,c7,Nat.mul_add,Nat.add_zero] at*
  omega
 split
 ·have h4:=Ka hk
  have h5:(oneOf 4 (iF c ks)).size≤1+aK (iF c ks):=R5
  show _≤(1+aK ks)*(1+aK ks)
  omega
 ·exact h3
section
variable {n c:Int}
theorem R7 {o l:Int} {ks:List Ex} (ho:o=4∨o=6∨o=8):aO (bP c (.node o l ks))=dh o 0 (ks.map fun k=>aO (bP c k)):=by
 rw[xe,ai (by omega),ak ho,lh,List.map_map]
 rfl
theorem adW {l:Int} {k:Ex}:aO (bP c (.node 7 l [k]))=dh 5 0 [aO (bP c k),aO (.node 7 l [k])]:=by
 rw[xe,ai (by omega),ai (by omega),ak rfl,lh]
 rfl
def EJ (c:Int) (k:Ex) (ks:List Ex):Ex:=if (aO (bP c k)).op=1 then aO (bP c k) else dh 5 0 (aO (bP c k)::ks.map aO)
theorem adX {k:Ex} {ks:List Ex} (hk:k.wf n=true) (a9: ∀x∈ks,x.wf n=true):EJ c k ks=aO (oneOf 5 (bP c k::ks)):=by
 have hg:=lY (n:=n) _ (sd (c:=c) k hk)
 unfold EJ
 rw[adT]
 by_cases hn:ks=[]
 ·subst hn
  rw[ak rfl,gl,abg hg]
  split<;>rfl
 ·rw[ai hn,lh,cG]
  by_cases h1:(aO (bP c k)).op=1
  ·rw[ak h1,tQ,ak,empty_eq hg h1]
   have Cw: ∀x∈aO (bP c k)::ks.map aO,Gd n x:=fun x hx=>by
    rcases c8.1 hx with rfl|hx
    ·exact hg
    ·obtain ⟨y,hy,rfl⟩:=fP.1 hx
     exact lY y (a9 y hy)
   rw[Jx Cw]
   simp[h1]
  ·rw[ai h1]
def se (c:Int):List Ex→List Ex
 | []=>[]
 | k::ks=>EJ c k ks::(if k.b6=true then se c ks else [])
theorem parts_eq: ∀{ks:List Ex},(∀x∈ks,x.wf n=true)→se c ks=(iF c ks).map aO
 | [],_=>by rw[iF];rfl
 | k::ks,h=>by
  have ih:=parts_eq (ks:=ks) fun x hx=>h x (by simp[hx])
  rw[EH,cG,←adX (h k (by simp)) (fun x hx=>h x (by simp[hx]))]
  unfold se
  refine congrArg _ ?_
  split
  ·exact ih
  ·rfl
theorem adY {l:Int} {ks:List Ex} (bt:ks≠[]) (hk: ∀x∈ks,x.wf n=true):aO (bP c (.node 5 l ks))=dh 4 0 (se c ks):=by
 rw[xe,ai (by omega),ai (by omega),ai (by omega),ak rfl,parts_eq hk]
 have hw:=EI (c:=c) hk fun k lN=>sd k (hk k lN)
 have hn:=R4 (c:=c) bt
 generalize iF c ks=L at*
 match L,hn with
 | [x],_=>exact (abf (lY x (hw x (by simp)))).symm
 | x::y::L,_=>
  show aO (.node 4 0 _)=_
  rw[lh]
end
end Go.AM
set_option maxRecDepth 100000
namespace Go.AM
open Go.Proofs
noncomputable def R8 (C:ag) (cO:Int) (cL:Bool) (ah ar:Int) (ae:List V):Option (List V):=
 bif cL then
  some [.int .i64 ah,.int .i64 ar,.list aa ae]
 else
  (C tD [.int .i64 ah,.int .i64 ar,.list aa ae]).bind fun r1=>
  some [.int .i64 ((V.nth r1 0).toInt),.int .i64 ((V.nth (r1.drop 1) 0).toInt),.list aa ((V.nth ((r1.drop 1).drop 1) 0).toList)]
theorem adZ {cO:Int} {cL:Bool} {ah ar:Int} {ae:List V} {r:Option (List V)} (h:R8 CC cO cL ah ar ae=r):CC zg [.int .i64 cO,.bool cL,.int .i64 ah,.int .i64 ar,.list aa ae]=r:=
 ba (key:=83) (L:=cj) (bs:=[]) (by kernel_rfl) aw (a8 (by kernel_rfl) h)
noncomputable abbrev R9:Code:=cP Try.prog (az.aZ 68)
noncomputable def Ay (C:ag) (t21:List V) (t22 gh:Int) (gE:Bool) (fZ eP:Int) (eb:List V) (nj nk qG qH:Int) (qI:Bool) (fB jY:List V) (Az t23:Int) (ln fc:List V) {β:Type} (kn:(Int × Int × (List V) × (List V))→Option β) (kr:(Int × Int × Bool × (List V) × (List V))→Option β):Option β:=
 bif decide ((t23:Int)<t22) then
  (idx t21 t23).bind fun x1=>
  (C nY [.int .i64 gh,.bool gE,.int .i64 ((x1.cell 0).toInt),.int .i64 ((x1.cell 1).toInt),.list aa ((x1.cell 2).toList)]).bind fun r2=>
  bif (decide (0≤t23))&&(decide (t23<(ln.length:Int))) then
  (ln[(t23:Int).toNat]?).bind fun x3=>
  bif (decide (0≤t23))&&(decide (t23<(fc.length:Int))) then
   (fc[(t23:Int).toNat]?).bind fun x4=>
   bif (V.nth ((((((r2.drop 1).drop 1).drop 1).drop 1).drop 1).drop 1) 0).toBool then
   kn (IntKind.wrap .i64 (Az+1),IntKind.wrap .i64 (t23+1),ln.set ((t23:Int).toNat) (.agg [.int .i64 ((V.nth r2 0).toInt),.int .i64 ((V.nth (r2.drop 1) 0).toInt),.list aa ((V.nth ((r2.drop 1).drop 1) 0).toList)]),fc.set ((t23:Int).toNat) (.agg [.int .i64 ((V.nth (((r2.drop 1).drop 1).drop 1) 0).toInt),.int .i64 ((V.nth ((((r2.drop 1).drop 1).drop 1).drop 1) 0).toInt),.list aa ((V.nth (((((r2.drop 1).drop 1).drop 1).drop 1).drop 1) 0).toList)]))
   else
   kn (Az,IntKind.wrap .i64 (t23+1),ln.set ((t23:Int).toNat) (.agg [.int .i64 ((V.nth r2 0).toInt),.int .i64 ((V.nth (r2.drop 1) 0).toInt),.list aa ((V.nth ((r2.drop 1).drop 1) 0).toList)]),fc.set ((t23:Int).toNat) (.agg [.int .i64 ((V.nth (((r2.drop 1).drop 1).drop 1) 0).toInt),.int .i64 ((V.nth ((((r2.drop 1).drop 1).drop 1).drop 1) 0).toInt),.list aa ((V.nth (((((r2.drop 1).drop 1).drop 1).drop 1).drop 1) 0).toList)]))
  else none
  else none
 else
  kr (Az,t23,decide ((t23:Int)<t22),ln,fc)
noncomputable def EK (C:ag) (t21:List V) (t22 gh:Int) (gE:Bool) (fZ eP:Int) (eb:List V) (nj nk qG qH:Int) (qI:Bool) (fB jY:List V):(Int × Int × (List V) × (List V))→Option ((Int × Int × (List V) × (List V)) ⊕ (Int × Int × Bool × (List V) × (List V))):=un fun Az=>un fun t23=>un fun ln fc=>Ay C t21 t22 gh gE fZ eP eb nj nk qG qH qI fB jY Az t23 ln fc (fun y=>some (.inl y)) (fun r=>some (.inr r))
noncomputable def Sa (C:ag):cC:=fun β n ds k=>
 bif Nat.beq n 65 then ch Ig [true,false,false,true,false,false,false,false,false,false,false,false,false,false,true,true,false,false] [[0,2,3,0,0,5,6,7,8,9,10,11,12,13,14,0,0,17,18]] (@Ay C) ds k else
 none
abbrev ad0 (C:ag) (b:cx):Prop:=cy Try.prog az C (Sa C) 68 (cT Try.prog (az.aZ 68)) (az.sin 68).aY.length b
theorem ad1 (C:ag):ad0 C (.loop (av [1,1,1,0,1,0,0] R9)):=
 ct Ig [true,false,false,true,false,false,false,false,false,false,false,false,false,false,true,true,false,false] [[0,2,3,0,0,5,6,7,8,9,10,11,12,13,14,0,0,17,18]] (@Ay C) (by kernel_rfl) (bf (bs:=[]) (by kernel_rfl) aw) (fun ds=>by kernel_rfl) (fun i x=>by kernel_rfl) (fun i x β k=>by kernel_rfl) (fun β ds k=>by kernel_rfl)
noncomputable def Sb (C:ag) (cO:Int) (cL:Bool) (ah ar:Int) (ae:List V):Option (List V):=
 bif (decide (0≤(ae.length:Int)))&&((decide ((ae.length:Int)≤(ae.length:Int)))&&(Nat.ble ((((ae.length:Int):Int).toNat)*40) cB)) then
  bif (decide (0≤(ae.length:Int)))&&((decide ((ae.length:Int)≤(ae.length:Int)))&&(Nat.ble ((((ae.length:Int):Int).toNat)*40) cB)) then
  (Loop (EK C ae (ae.length:Int) cO cL ah ar ae 0 0 0 0 false ([]:List V) ([]:List V)) (0,0,List.replicate (((ae.length:Int):Int).toNat) (V.agg [.int .i64 0,.int .i64 0,.list aa ([]:List V)]),List.replicate (((ae.length:Int):Int).toNat) (V.agg [.int .i64 0,.int .i64 0,.list aa ([]:List V)]))).bind (un fun (Kb:Int)=>un fun (lW:Int)=>un fun (od:Bool)=>un fun (ad2:List V) (ad3:List V)=>
   (C jR [.int .i64 ah,.list aa ad2]).bind fun dR=>
   (C jR [.int .i64 ah,.list aa ad3]).bind fun eJ=>
   bif (ah:Int)==4 then
    some [.int .i64 ((V.nth dR 0).toInt),.int .i64 ((V.nth (dR.drop 1) 0).toInt),.list aa ((V.nth ((dR.drop 1).drop 1) 0).toList),.int .i64 ((V.nth eJ 0).toInt),.int .i64 ((V.nth (eJ.drop 1) 0).toInt),.list aa ((V.nth ((eJ.drop 1).drop 1) 0).toList),.bool (decide ((Kb:Int)>0))]
   else
    bif (ah:Int)==6 then
    some [.int .i64 ((V.nth dR 0).toInt),.int .i64 ((V.nth (dR.drop 1) 0).toInt),.list aa ((V.nth ((dR.drop 1).drop 1) 0).toList),.int .i64 ((V.nth eJ 0).toInt),.int .i64 ((V.nth (eJ.drop 1) 0).toInt),.list aa ((V.nth ((eJ.drop 1).drop 1) 0).toList),.bool ((Kb:Int)==(ae.length:Int))]
    else
    bif (ah:Int)==8 then
     some [.int .i64 ((V.nth dR 0).toInt),.int .i64 ((V.nth (dR.drop 1) 0).toInt),.list aa ((V.nth ((dR.drop 1).drop 1) 0).toList),.int .i64 ((V.nth eJ 0).toInt),.int .i64 ((V.nth (eJ.drop 1) 0).toInt),.list aa ((V.nth ((eJ.drop 1).drop 1) 0).toList),.bool ((Kb:Int)==0)]
    else
     some [.int .i64 ((V.nth dR 0).toInt),.int .i64 ((V.nth (dR.drop 1) 0).toInt),.list aa ((V.nth ((dR.drop 1).drop 1) 0).toList),.int .i64 ((V.nth eJ 0).toInt),.int .i64 ((V.nth (eJ.drop 1) 0).toInt),.list aa ((V.nth ((eJ.drop 1).drop 1) 0).toList),.bool false])
  else none
 else none
theorem ad4 {cO:Int} {cL:Bool} {ah ar:Int} {ae:List V} {r:Option (List V)} (h:Sb CC cO cL ah ar ae=r):CC vR [.int .i64 cO,.bool cL,.int .i64 ah,.int .i64 ar,.list aa ae]=r:=
 ba (key:=68) (L:=Sa CC) (bs:=[.loop (av [1,1,1,0,1,0,0] R9)]) (by kernel_rfl) (bG (ad1 CC) aw) (a8 (by kernel_rfl) h)
noncomputable abbrev EL:Code:=cP Try.prog (az.aZ 70)
noncomputable def xf (C:ag) (t20:List V) (t21 gh:Int) (gE:Bool) (nj nk qG qH:Int) (qI:Bool) (pg fB:List V) (sf:Bool) (t22:Int) (ln fc:List V) {β:Type} (kn:(Bool × Int × (List V) × (List V))→Option β) (kr:(Bool × Int × Bool × (List V) × (List V))→Option β):Option β:=
 bif decide ((t22:Int)<t21) then
  (idx t20 t22).bind fun x1=>
  bif !sf then
  (C zg [.int .i64 gh,.bool gE,.int .i64 ((x1.cell 0).toInt),.int .i64 ((x1.cell 1).toInt),.list aa ((x1.cell 2).toList)]).bind fun r2=>
  bif (decide (0≤t22))&&(decide (t22<(fc.length:Int))) then
   (fc[(t22:Int).toNat]?).bind fun x3=>
   kn (sf,IntKind.wrap .i64 (t22+1),ln,fc.set ((t22:Int).toNat) (.agg [.int .i64 ((V.nth r2 0).toInt),.int .i64 ((V.nth (r2.drop 1) 0).toInt),.list aa ((V.nth ((r2.drop 1).drop 1) 0).toList)]))
  else none
  else
  (C nY [.int .i64 gh,.bool gE,.int .i64 ((x1.cell 0).toInt),.int .i64 ((x1.cell 1).toInt),.list aa ((x1.cell 2).toList)]).bind fun r4=>
  bif Nat.ble ((ln.length+([.agg [.int .i64 ((V.nth r4 0).toInt),.int .i64 ((V.nth (r4.drop 1) 0).toInt),.list aa ((V.nth ((r4.drop 1).drop 1) 0).toList)]]:List V).length)*40) cB then
   bif (decide (0≤t22))&&(decide (t22<(fc.length:Int))) then
   (fc[(t22:Int).toNat]?).bind fun x5=>
   kn ((V.nth ((((((r4.drop 1).drop 1).drop 1).drop 1).drop 1).drop 1) 0).toBool,IntKind.wrap .i64 (t22+1),ln++([.agg [.int .i64 ((V.nth r4 0).toInt),.int .i64 ((V.nth (r4.drop 1) 0).toInt),.list aa ((V.nth ((r4.drop 1).drop 1) 0).toList)]]:List V),fc.set ((t22:Int).toNat) (.agg [.int .i64 ((V.nth (((r4.drop 1).drop 1).drop 1) 0).toInt),.int .i64 ((V.nth ((((r4.drop 1).drop 1).drop 1).drop 1) 0).toInt),.list aa ((V.nth (((((r4.drop 1).drop 1).drop 1).drop 1).drop 1) 0).toList)]))
   else none
  else none
 else
  kr (sf,t22,decide ((t22:Int)<t21),ln,fc)
noncomputable def AA (C:ag) (t20:List V) (t21 gh:Int) (gE:Bool) (nj nk qG qH:Int) (qI:Bool) (pg fB:List V):(Bool × Int × (List V) × (List V))→Option ((Bool × Int × (List V) × (List V)) ⊕ (Bool × Int × Bool × (List V) × (List V))):=un fun sf=>un fun t22=>un fun ln fc=>xf C t20 t21 gh gE nj nk qG qH qI pg fB sf t22 ln fc (fun y=>some (.inl y)) (fun r=>some (.inr r))
noncomputable def AB (C:ag) (sf:Bool) (t55 nj nk qG qH:Int) (qI:Bool) (fc EM pg fB:List V) (t56:Int) (gb:List V) {β:Type} (kn:(Int × (List V))→Option β) (kr:(Int × Bool × (List V))→Option β):Option β:=
 bif decide ((t56:Int)<t55) then
  bif (decide (0≤t56))&&(decide (t56<(EM.length:Int))) then
  (EM[(t56:Int).toNat]?).bind fun eG=>
  bif (((eG.cell 0).toInt):Int)==1 then
   bif (decide (0≤t56))&&(decide (t56<(gb.length:Int))) then
   (gb[(t56:Int).toNat]?).bind fun EN=>
   kn (IntKind.wrap .i64 (t56+1),gb.set ((t56:Int).toNat) (.agg [.int .i64 ((eG.cell 0).toInt),.int .i64 ((eG.cell 1).toInt),.list aa ((eG.cell 2).toList)]))
   else none
  else
   bif (decide (0≤(IntKind.wrap .i64 (t56+1))))&&(decide ((IntKind.wrap .i64 (t56+1))≤(fc.length:Int))) then
   bif Nat.ble ((([.agg [.int .i64 ((eG.cell 0).toInt),.int .i64 ((eG.cell 1).toInt),.list aa ((eG.cell 2).toList)]]:List V).length+((fc.drop ((IntKind.wrap .i64 (t56+1):Int).toNat)).take (fc.length-((IntKind.wrap .i64 (t56+1):Int).toNat))).length)*40) cB then
    (C jR [.int .i64 5,.list aa (([.agg [.int .i64 ((eG.cell 0).toInt),.int .i64 ((eG.cell 1).toInt),.list aa ((eG.cell 2).toList)]]:List V)++((fc.drop ((IntKind.wrap .i64 (t56+1):Int).toNat)).take (fc.length-((IntKind.wrap .i64 (t56+1):Int).toNat))))]).bind fun gg=>
    bif (decide (0≤t56))&&(decide (t56<(gb.length:Int))) then
    (gb[(t56:Int).toNat]?).bind fun m8=>
    kn (IntKind.wrap .i64 (t56+1),gb.set ((t56:Int).toNat) (.agg [.int .i64 ((V.nth gg 0).toInt),.int .i64 ((V.nth (gg.drop 1) 0).toInt),.list aa ((V.nth ((gg.drop 1).drop 1) 0).toList)]))
    else none
   else none
   else none
  else none
 else
  kr (t56,decide ((t56:Int)<t55),gb)
noncomputable def EO (C:ag) (sf:Bool) (t55 nj nk qG qH:Int) (qI:Bool) (fc EM pg fB:List V):(Int × (List V))→Option ((Int × (List V)) ⊕ (Int × Bool × (List V))):=un fun t56 gb=>AB C sf t55 nj nk qG qH qI fc EM pg fB t56 gb (fun y=>some (.inl y)) (fun r=>some (.inr r))
noncomputable def Sd (C:ag):cC:=fun β n ds k=>
 bif Nat.beq n 81 then ch Ih [true,false,false,true,false,false,false,false,false,false,false,true,true,false,false] [[0,2,3,0,0,5,6,7,8,9,10,11,0,0,14,15]] (@xf C) ds k else
 bif Nat.beq n 225 then ch Ii [false,false,true,false,false,false,false,false,false,true,false,false,false] [[1,2,0,0,4,5,6,7,8,9,0,11,12,13]] (@AB C) ds k else
 none
abbrev Se (C:ag) (b:cx):Prop:=cy Try.prog az C (Sd C) 70 (cT Try.prog (az.aZ 70)) (az.sin 70).aY.length b
theorem ad5 (C:ag):Se C (.loop (av [1,1,1,1,0,1,0,0] EL)):=
 ct Ih [true,false,false,true,false,false,false,false,false,false,false,true,true,false,false] [[0,2,3,0,0,5,6,7,8,9,10,11,0,0,14,15]] (@xf C) (by kernel_rfl) (bf (bs:=[]) (by kernel_rfl) aw) (fun ds=>by kernel_rfl) (fun i x=>by kernel_rfl) (fun i x β k=>by kernel_rfl) (fun β ds k=>by kernel_rfl)
theorem ad6 (C:ag):Se C (.loop (av [1,1,1,1,1,1,0,1,0,0] EL)):=
 ct Ii [false,false,true,false,false,false,false,false,false,true,false,false,false] [[1,2,0,0,4,5,6,7,8,9,0,11,12,13]] (@AB C) (by kernel_rfl) (bf (bs:=[]) (by kernel_rfl) aw) (fun ds=>by kernel_rfl) (fun i x=>by kernel_rfl) (fun i x β k=>by kernel_rfl) (fun β ds k=>by kernel_rfl)
noncomputable def Sf (C:ag) (cO:Int) (cL:Bool) (ah ar:Int) (ae:List V):Option (List V):=
 bif (decide (0≤(ae.length:Int)))&&((decide ((ae.length:Int)≤(ae.length:Int)))&&(Nat.ble ((((ae.length:Int):Int).toNat)*40) cB)) then
  (Loop (AA C ae (ae.length:Int) cO cL 0 0 0 0 false ([]:List V) ([]:List V)) (true,0,([]:List V),List.replicate (((ae.length:Int):Int).toNat) (V.agg [.int .i64 0,.int .i64 0,.list aa ([]:List V)]))).bind (un fun (Sg:Bool)=>un fun (od:Int)=>un fun (Pb:Bool)=>un fun (uu:List V) (Sh:List V)=>
   bif (decide (0≤(uu.length:Int)))&&((decide ((uu.length:Int)≤(uu.length:Int)))&&(Nat.ble ((((uu.length:Int):Int).toNat)*40) cB)) then
   (Loop (EO C Sg (uu.length:Int) 0 0 0 0 false Sh uu ([]:List V) ([]:List V)) (0,List.replicate (((uu.length:Int):Int).toNat) (V.agg [.int .i64 0,.int .i64 0,.list aa ([]:List V)]))).bind (un fun (zB:Int)=>un fun (Pd:Bool) (ad7:List V)=>
    (C jR [.int .i64 4,.list aa ad7]).bind fun iD=>
    (C jR [.int .i64 5,.list aa Sh]).bind fun dZ=>
    some [.int .i64 ((V.nth iD 0).toInt),.int .i64 ((V.nth (iD.drop 1) 0).toInt),.list aa ((V.nth ((iD.drop 1).drop 1) 0).toList),.int .i64 ((V.nth dZ 0).toInt),.int .i64 ((V.nth (dZ.drop 1) 0).toInt),.list aa ((V.nth ((dZ.drop 1).drop 1) 0).toList),.bool Sg])
   else none)
 else none
theorem ad8 {cO:Int} {cL:Bool} {ah ar:Int} {ae:List V} {r:Option (List V)} (h:Sf CC cO cL ah ar ae=r):CC vS [.int .i64 cO,.bool cL,.int .i64 ah,.int .i64 ar,.list aa ae]=r:=
 ba (key:=70) (L:=Sd CC) (bs:=[.loop (av [1,1,1,1,0,1,0,0] EL),.loop (av [1,1,1,1,1,1,0,1,0,0] EL)]) (by kernel_rfl) (bG (ad5 CC) (bG (ad6 CC) aw)) (a8 (by kernel_rfl) h)
noncomputable abbrev EP:Code:=cP Try.prog (az.aZ 50)
noncomputable def ER (C:ag) (t24:Bool) (fZ eP:Int) (eb:List V) (nj nk qG qH:Int) (qI:Bool) (ad9 Kc aea aeb:Int) (pg fB jY ES:List V) {β:Type} (kr:(Int × Int × (List V))→Option β):Option β:=
 bif t24 then
  kr (aea,aeb,ES)
 else
  kr (ad9,Kc,jY)
noncomputable def Si (C:ag):cC:=fun β n ds k=>
 bif Nat.beq n 399 then iz Ia [[2,3,4,5,6,7,8,9,0,0,14,15,0]] (@ER C) ds k else
 none
abbrev aec (C:ag) (b:cx):Prop:=cy Try.prog az C (Si C) 50 (cT Try.prog (az.aZ 50)) (az.sin 50).aY.length b
theorem aed (C:ag):aec C (.cond 24 (av [1,1,0,1,0,1,1,1,0,0,1,0] EP) (av [1,1,0,1,0,1,1,1,0,0,1,1] EP)):=
 iQ Ia [[2,3,4,5,6,7,8,9,0,0,14,15,0]] (@ER C) (by kernel_rfl) (bf (bs:=[]) (by kernel_rfl) aw) (bf (bs:=[]) (by kernel_rfl) aw) (fun ds=>by kernel_rfl) (fun i β k=>by kernel_rfl) (fun β ds k=>by kernel_rfl)
noncomputable def Sj (C:ag) (cO:Int) (cL:Bool) (ah ar:Int) (ae:List V):Option (List V):=
 bif (ah:Int)==2 then
  some [.int .i64 1,.int .i64 0,.list aa ([]:List V),.int .i64 2,.int .i64 0,.list aa ([]:List V),.bool true]
 else
  bif (ah:Int)==3 then
  ER C ((ar:Int)==cO) ah ar ae 0 0 0 0 false 1 0 2 0 ([]:List V) ([]:List V) ([]:List V) ([]:List V) (un fun (Kc:Int)=>un fun (aee:Int) (ET:List V)=>
   some [.int .i64 Kc,.int .i64 aee,.list aa ET,.int .i64 3,.int .i64 ar,.list aa ([]:List V),.bool false])
  else
  bif (ah:Int)==4 then
   bif (ah:Int)==4 then
   (C vR [.int .i64 cO,.bool cL,.int .i64 ah,.int .i64 ar,.list aa ae]).bind fun r4=>
   some [.int .i64 ((V.nth r4 0).toInt),.int .i64 ((V.nth (r4.drop 1) 0).toInt),.list aa ((V.nth ((r4.drop 1).drop 1) 0).toList),.int .i64 ((V.nth (((r4.drop 1).drop 1).drop 1) 0).toInt),.int .i64 ((V.nth ((((r4.drop 1).drop 1).drop 1).drop 1) 0).toInt),.list aa ((V.nth (((((r4.drop 1).drop 1).drop 1).drop 1).drop 1) 0).toList),.bool ((V.nth ((((((r4.drop 1).drop 1).drop 1).drop 1).drop 1).drop 1) 0).toBool)]
   else
   bif (ah:Int)==7 then
    (ae[0]?).bind fun x5=>
    (C nY [.int .i64 cO,.bool cL,.int .i64 ((x5.cell 0).toInt),.int .i64 ((x5.cell 1).toInt),.list aa ((x5.cell 2).toList)]).bind fun r6=>
    (C jR [.int .i64 7,.list aa ([.agg [.int .i64 ((V.nth (((r6.drop 1).drop 1).drop 1) 0).toInt),.int .i64 ((V.nth ((((r6.drop 1).drop 1).drop 1).drop 1) 0).toInt),.list aa ((V.nth (((((r6.drop 1).drop 1).drop 1).drop 1).drop 1) 0).toList)]]:List V)]).bind fun r7=>
    (C jR [.int .i64 5,.list aa ([.agg [.int .i64 ((V.nth r6 0).toInt),.int .i64 ((V.nth (r6.drop 1) 0).toInt),.list aa ((V.nth ((r6.drop 1).drop 1) 0).toList)],.agg [.int .i64 ((V.nth r7 0).toInt),.int .i64 ((V.nth (r7.drop 1) 0).toInt),.list aa ((V.nth ((r7.drop 1).drop 1) 0).toList)]]:List V)]).bind fun r8=>
    some [.int .i64 ((V.nth r8 0).toInt),.int .i64 ((V.nth (r8.drop 1) 0).toInt),.list aa ((V.nth ((r8.drop 1).drop 1) 0).toList),.int .i64 ((V.nth r7 0).toInt),.int .i64 ((V.nth (r7.drop 1) 0).toInt),.list aa ((V.nth ((r7.drop 1).drop 1) 0).toList),.bool true]
   else
    bif (ah:Int)==5 then
    (C vS [.int .i64 cO,.bool cL,.int .i64 ah,.int .i64 ar,.list aa ae]).bind fun r9=>
    some [.int .i64 ((V.nth r9 0).toInt),.int .i64 ((V.nth (r9.drop 1) 0).toInt),.list aa ((V.nth ((r9.drop 1).drop 1) 0).toList),.int .i64 ((V.nth (((r9.drop 1).drop 1).drop 1) 0).toInt),.int .i64 ((V.nth ((((r9.drop 1).drop 1).drop 1).drop 1) 0).toInt),.list aa ((V.nth (((((r9.drop 1).drop 1).drop 1).drop 1).drop 1) 0).toList),.bool ((V.nth ((((((r9.drop 1).drop 1).drop 1).drop 1).drop 1).drop 1) 0).toBool)]
    else
    some [.int .i64 1,.int .i64 0,.list aa ([]:List V),.int .i64 1,.int .i64 0,.list aa ([]:List V),.bool false]
  else
   bif (ah:Int)==6 then
   bif (ah:Int)==6 then
    (C vR [.int .i64 cO,.bool cL,.int .i64 ah,.int .i64 ar,.list aa ae]).bind fun dR=>
    some [.int .i64 ((V.nth dR 0).toInt),.int .i64 ((V.nth (dR.drop 1) 0).toInt),.list aa ((V.nth ((dR.drop 1).drop 1) 0).toList),.int .i64 ((V.nth (((dR.drop 1).drop 1).drop 1) 0).toInt),.int .i64 ((V.nth ((((dR.drop 1).drop 1).drop 1).drop 1) 0).toInt),.list aa ((V.nth (((((dR.drop 1).drop 1).drop 1).drop 1).drop 1) 0).toList),.bool ((V.nth ((((((dR.drop 1).drop 1).drop 1).drop 1).drop 1).drop 1) 0).toBool)]
   else
    bif (ah:Int)==7 then
    (ae[0]?).bind fun eG=>
    (C nY [.int .i64 cO,.bool cL,.int .i64 ((eG.cell 0).toInt),.int .i64 ((eG.cell 1).toInt),.list aa ((eG.cell 2).toList)]).bind fun fy=>
    (C jR [.int .i64 7,.list aa ([.agg [.int .i64 ((V.nth (((fy.drop 1).drop 1).drop 1) 0).toInt),.int .i64 ((V.nth ((((fy.drop 1).drop 1).drop 1).drop 1) 0).toInt),.list aa ((V.nth (((((fy.drop 1).drop 1).drop 1).drop 1).drop 1) 0).toList)]]:List V)]).bind fun gg=>
    (C jR [.int .i64 5,.list aa ([.agg [.int .i64 ((V.nth fy 0).toInt),.int .i64 ((V.nth (fy.drop 1) 0).toInt),.list aa ((V.nth ((fy.drop 1).drop 1) 0).toList)],.agg [.int .i64 ((V.nth gg 0).toInt),.int .i64 ((V.nth (gg.drop 1) 0).toInt),.list aa ((V.nth ((gg.drop 1).drop 1) 0).toList)]]:List V)]).bind fun kD=>
    some [.int .i64 ((V.nth kD 0).toInt),.int .i64 ((V.nth (kD.drop 1) 0).toInt),.list aa ((V.nth ((kD.drop 1).drop 1) 0).toList),.int .i64 ((V.nth gg 0).toInt),.int .i64 ((V.nth (gg.drop 1) 0).toInt),.list aa ((V.nth ((gg.drop 1).drop 1) 0).toList),.bool true]
    else
    bif (ah:Int)==5 then
     (C vS [.int .i64 cO,.bool cL,.int .i64 ah,.int .i64 ar,.list aa ae]).bind fun lj=>
     some [.int .i64 ((V.nth lj 0).toInt),.int .i64 ((V.nth (lj.drop 1) 0).toInt),.list aa ((V.nth ((lj.drop 1).drop 1) 0).toList),.int .i64 ((V.nth (((lj.drop 1).drop 1).drop 1) 0).toInt),.int .i64 ((V.nth ((((lj.drop 1).drop 1).drop 1).drop 1) 0).toInt),.list aa ((V.nth (((((lj.drop 1).drop 1).drop 1).drop 1).drop 1) 0).toList),.bool ((V.nth ((((((lj.drop 1).drop 1).drop 1).drop 1).drop 1).drop 1) 0).toBool)]
    else
     some [.int .i64 1,.int .i64 0,.list aa ([]:List V),.int .i64 1,.int .i64 0,.list aa ([]:List V),.bool false]
   else
   bif (ah:Int)==8 then
    (C vR [.int .i64 cO,.bool cL,.int .i64 ah,.int .i64 ar,.list aa ae]).bind fun nh=>
    some [.int .i64 ((V.nth nh 0).toInt),.int .i64 ((V.nth (nh.drop 1) 0).toInt),.list aa ((V.nth ((nh.drop 1).drop 1) 0).toList),.int .i64 ((V.nth (((nh.drop 1).drop 1).drop 1) 0).toInt),.int .i64 ((V.nth ((((nh.drop 1).drop 1).drop 1).drop 1) 0).toInt),.list aa ((V.nth (((((nh.drop 1).drop 1).drop 1).drop 1).drop 1) 0).toList),.bool ((V.nth ((((((nh.drop 1).drop 1).drop 1).drop 1).drop 1).drop 1) 0).toBool)]
   else
    bif (ah:Int)==7 then
    (ae[0]?).bind fun qz=>
    (C nY [.int .i64 cO,.bool cL,.int .i64 ((qz.cell 0).toInt),.int .i64 ((qz.cell 1).toInt),.list aa ((qz.cell 2).toList)]).bind fun iD=>
    (C jR [.int .i64 7,.list aa ([.agg [.int .i64 ((V.nth (((iD.drop 1).drop 1).drop 1) 0).toInt),.int .i64 ((V.nth ((((iD.drop 1).drop 1).drop 1).drop 1) 0).toInt),.list aa ((V.nth (((((iD.drop 1).drop 1).drop 1).drop 1).drop 1) 0).toList)]]:List V)]).bind fun dZ=>
    (C jR [.int .i64 5,.list aa ([.agg [.int .i64 ((V.nth iD 0).toInt),.int .i64 ((V.nth (iD.drop 1) 0).toInt),.list aa ((V.nth ((iD.drop 1).drop 1) 0).toList)],.agg [.int .i64 ((V.nth dZ 0).toInt),.int .i64 ((V.nth (dZ.drop 1) 0).toInt),.list aa ((V.nth ((dZ.drop 1).drop 1) 0).toList)]]:List V)]).bind fun gZ=>
    some [.int .i64 ((V.nth gZ 0).toInt),.int .i64 ((V.nth (gZ.drop 1) 0).toInt),.list aa ((V.nth ((gZ.drop 1).drop 1) 0).toList),.int .i64 ((V.nth dZ 0).toInt),.int .i64 ((V.nth (dZ.drop 1) 0).toInt),.list aa ((V.nth ((dZ.drop 1).drop 1) 0).toList),.bool true]
    else
    bif (ah:Int)==5 then
     (C vS [.int .i64 cO,.bool cL,.int .i64 ah,.int .i64 ar,.list aa ae]).bind fun ma=>
     some [.int .i64 ((V.nth ma 0).toInt),.int .i64 ((V.nth (ma.drop 1) 0).toInt),.list aa ((V.nth ((ma.drop 1).drop 1) 0).toList),.int .i64 ((V.nth (((ma.drop 1).drop 1).drop 1) 0).toInt),.int .i64 ((V.nth ((((ma.drop 1).drop 1).drop 1).drop 1) 0).toInt),.list aa ((V.nth (((((ma.drop 1).drop 1).drop 1).drop 1).drop 1) 0).toList),.bool ((V.nth ((((((ma.drop 1).drop 1).drop 1).drop 1).drop 1).drop 1) 0).toBool)]
    else
     some [.int .i64 1,.int .i64 0,.list aa ([]:List V),.int .i64 1,.int .i64 0,.list aa ([]:List V),.bool false]
theorem aef {cO:Int} {cL:Bool} {ah ar:Int} {ae:List V} {r:Option (List V)} (h:Sj CC cO cL ah ar ae=r):CC nY [.int .i64 cO,.bool cL,.int .i64 ah,.int .i64 ar,.list aa ae]=r:=
 ba (key:=50) (L:=Si CC) (bs:=[.cond 24 (av [1,1,0,1,0,1,1,1,0,0,1,0] EP) (av [1,1,0,1,0,1,1,1,0,0,1,1] EP)]) (by kernel_rfl) (bG (aed CC) aw) (a8 (by kernel_rfl) h)
end Go.AM
