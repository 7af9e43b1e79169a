/-
  Functions of the program, lifted to plain data.
-/
import Derived.Test.YtmcdbnalaobmpaaDoorP6
set_option linter.unusedVariables false
set_option linter.unusedSimpArgs false
set_option maxRecDepth 100000
namespace Go.AM
open Go.Proofs
noncomputable abbrev Yz:Code:=cL Tryd.prog (av.aT 43)
noncomputable def Dj (C:ae) (s:Int) (t42:List V) (t43 bX bY nM nO:Int) (lZ ee cM bU:List V) (t44 bm ba bp bq:Int) (bK:List V) {β:Type} (kn:(Int × Int × Int × Int × Int × (List V))→Option β) (kr:(Int × Bool × Int × Int × Int × Int × (List V))→Option β):Option β:=
 bif decide ((t44:Int)<t43) then
  (idx t42 t44).bind fun x5=>
  (C uW [.int .i64 s,.int .i64 t44,.int .i64 x5.toInt,.int .i64 bm,.int .i64 ba,.int .u64 bp,.int .u64 bq,.list ar bK]).bind fun r6=>
  kn (IntKind.wrap .i64 (t44+1),(V.nth r6 0).toInt,(V.nth (r6.drop 1) 0).toInt,(V.nth ((r6.drop 1).drop 1) 0).toInt,(V.nth (((r6.drop 1).drop 1).drop 1) 0).toInt,(V.nth (r6.drop 4) 0).toList)
 else
  kr (t44,decide ((t44:Int)<t43),bm,ba,bp,bq,bK)
noncomputable def OE (C:ae) (s:Int) (t42:List V) (t43 bX bY nM nO:Int) (lZ ee cM bU:List V):(Int × Int × Int × Int × Int × (List V))→Option ((Int × Int × Int × Int × Int × (List V)) ⊕ (Int × Bool × Int × Int × Int × Int × (List V))):=un fun t44=>un fun bm=>un fun ba=>un fun bp=>un fun bq bK=>Dj C s t42 t43 bX bY nM nO lZ ee cM bU t44 bm ba bp bq bK (fun y=>some (.inl y)) (fun r=>some (.inr r))
noncomputable def YA (C:ae):cy:=fun β n ds k=>
 bif Nat.beq n 161 then bw KW [false,false,false,true,false,false,false,false,true,true,true,true,false,false,false,false,true] [[1,2,3,0,0,5,6,7,8,0,0,0,0,13,14,15,16,0]] (@Dj C) ds k else
 none
abbrev akw (C:ae) (b:cv):Prop:=cw Tryd.prog av C (YA C) 43 (cR Tryd.prog (av.aT 43)) (av.sin 43).aX.length b
theorem akx (C:ae):akw C (.loop (aq [1,1,1,1,1,1,1,0,1,0,0] Yz)):=
 bC KW [false,false,false,true,false,false,false,false,true,true,true,true,false,false,false,false,true] [[1,2,3,0,0,5,6,7,8,0,0,0,0,13,14,15,16,0]] (@Dj C) (by kernel_rfl) (aV (bs:=[]) (by kernel_rfl) au) (fun ds=>by kernel_rfl) (fun i x=>by kernel_rfl) (fun i x β k=>by kernel_rfl) (fun β ds k=>by kernel_rfl)
noncomputable def OF (C:ae) (aQ aS:Int) (aF aZ:List V):Option (List V):=
 (C Ar [.int .i64 aQ,.int .i64 aS,.list ak aF,.list an aZ]).bind fun r1=>
 bif (((V.nth (r1.drop 2) 0).toInt):Int) != 0 then
  some [.int .i64 0,.int .i64 0,.int .i64 ((V.nth (r1.drop 2) 0).toInt),.list ak ([]:List V),.list an ([]:List V)]
 else
  (C uU [.int .i64 aQ,.int .i64 (IntKind.wrap .i64 ((((V.nth (r1.drop 3) 0).toList).length:Int)+1))]).bind fun r2=>
  bif (V.nth r2 0).toBool then
  some [.int .i64 0,.int .i64 0,.int .i64 3,.list ak ([]:List V),.list an ([]:List V)]
  else
  (C uZ [.int .i64 ((V.nth r1 0).toInt),.int .i64 ((V.nth (r1.drop 1) 0).toInt),.list ak ((V.nth (r1.drop 3) 0).toList),.list an ((V.nth ((r1.drop 3).drop 1) 0).toList),.int .i64 0,.int .i64 ((V.nth (r2.drop 1) 0).toInt),.int .i64 ((V.nth ((r2.drop 1).drop 1) 0).toInt),.int .u64 ((V.nth (((r2.drop 1).drop 1).drop 1) 0).toInt),.int .u64 ((V.nth ((((r2.drop 1).drop 1).drop 1).drop 1) 0).toInt),.list ar ((V.nth ((r2.drop 1).drop 4) 0).toList)]).bind fun r3=>
  bif (decide (0≤((V.nth (r1.drop 1) 0).toInt)))&&(decide (((V.nth (r1.drop 1) 0).toInt)<(((V.nth ((r1.drop 3).drop 1) 0).toList).length:Int))) then
   (((V.nth ((r1.drop 3).drop 1) 0).toList)[((V.nth (r1.drop 1) 0).toInt:Int).toNat]?).bind fun x4=>
   (Loop (OE C (((V.nth (r1.drop 3) 0).toList).length:Int) x4.toList (x4.toList.length:Int) 0 0 ((V.nth r1 0).toInt) ((V.nth (r1.drop 1) 0).toInt) ([]:List V) ([]:List V) ((V.nth (r1.drop 3) 0).toList) ((V.nth ((r1.drop 3).drop 1) 0).toList)) (0,(V.nth r3 0).toInt,(V.nth (r3.drop 1) 0).toInt,(V.nth ((r3.drop 1).drop 1) 0).toInt,(V.nth (((r3.drop 1).drop 1).drop 1) 0).toInt,(V.nth (r3.drop 4) 0).toList)).bind (un fun (nF:Int)=>un fun (ta:Bool)=>un fun (sa:Int)=>un fun (Dg:Int)=>un fun (Ou:Int)=>un fun (Ov:Int) (xL:List V)=>
    (C Aw [.list ak ((V.nth (r1.drop 3) 0).toList),.int .i64 ((V.nth (r1.drop 1) 0).toInt),.int .i64 sa,.int .i64 Dg,.int .u64 Ou,.int .u64 Ov,.list ar xL]).bind fun iY=>
    (C uX [.int .i64 (((V.nth (r1.drop 3) 0).toList).length:Int),.int .i64 ((V.nth iY 0).toInt),.int .i64 ((V.nth (iY.drop 1) 0).toInt),.int .u64 ((V.nth ((iY.drop 1).drop 1) 0).toInt),.int .u64 ((V.nth (((iY.drop 1).drop 1).drop 1) 0).toInt),.list ar ((V.nth (iY.drop 4) 0).toList)]).bind fun eH=>
    (C Au [.int .i64 (((V.nth (r1.drop 3) 0).toList).length:Int),.int .i64 ((V.nth eH 0).toInt),.int .i64 ((V.nth (eH.drop 1) 0).toInt),.int .u64 ((V.nth ((eH.drop 1).drop 1) 0).toInt),.int .u64 ((V.nth (((eH.drop 1).drop 1).drop 1) 0).toInt),.list ar ((V.nth (eH.drop 4) 0).toList)]).bind fun fQ=>
    (C uY [.list ak ((V.nth (r1.drop 3) 0).toList),.int .i64 0,.int .i64 ((V.nth fQ 0).toInt),.int .i64 ((V.nth (fQ.drop 1) 0).toInt),.int .u64 ((V.nth ((fQ.drop 1).drop 1) 0).toInt),.int .u64 ((V.nth (((fQ.drop 1).drop 1).drop 1) 0).toInt),.list ar ((V.nth (fQ.drop 4) 0).toList)]).bind fun dG=>
    (C qX [.int .i64 ((V.nth dG 0).toInt),.int .i64 ((V.nth (dG.drop 1) 0).toInt),.int .u64 ((V.nth ((dG.drop 1).drop 1) 0).toInt),.int .u64 ((V.nth (((dG.drop 1).drop 1).drop 1) 0).toInt),.list ar ((V.nth (dG.drop 4) 0).toList)]).bind fun jt=>
    some [.int .i64 ((V.nth jt 0).toInt),.int .i64 ((V.nth (jt.drop 1) 0).toInt),.int .i64 ((V.nth (jt.drop 2) 0).toInt),.list ak ((V.nth ((jt.drop 3).drop 5) 0).toList),.list an ((V.nth (((jt.drop 3).drop 5).drop 1) 0).toList)])
  else none
theorem YB {aQ aS:Int} {aF aZ:List V} {r:Option (List V)} (h:OF CC aQ aS aF aZ=r):CC uT [.int .i64 aQ,.int .i64 aS,.list ak aF,.list an aZ]=r:=
 bh (key:=43) (L:=YA CC) (bs:=[.loop (aq [1,1,1,1,1,1,1,0,1,0,0] Yz)]) (by kernel_rfl) (bf (akx CC) au) (Eq.trans (by kernel_rfl) h)
section
variable {a:Da} (h:a.Ok)
include h
theorem aky (hs:(minD a).n+1≤64):CC uT (dj a)=some (gf (fR (Oz (minD a)) a.L ((minD a).n+1)) (n7 (Oz (minD a)) a.L ((minD a).n+1))):=by
 have hm:=dX h
 have h6:=hm.l6
 have hL:=ky h
 have bP:=hm.s
 have hr:=XW (Yw hm hs)
 refine YB ?_
 unfold OF
 refine bs (Oj h) (bF rfl ?_)
 have e0:(V.nth ((gf (minD a) 0).drop 3) 0).toList=(minD a).bz:=rfl
 have e1:(V.nth (((gf (minD a) 0).drop 3).drop 1) 0).toList=(minD a).bD:=rfl
 have e2:(V.nth ((gf (minD a) 0).drop 1) 0).toInt=((minD a).st:Int):=rfl
 rw[e0,e1,e2,Da.kW,cN (by omega)]
 refine bs (Og hs) (bF rfl ?_)
 refine bs (HX (l:=[]) hm (off:=0) (by omega) (by simp)) ?_
 rw[List.nil_append]
 refine (eF (i:=(minD a).st) bP).trans ?_
 rw[show (fo (minD a).L ((minD a).nx (minD a).st)).toList=tab (minD a).L fun x=>nV ((minD a).nx (minD a).st x) from rfl,dJ]
 have hlen:=sb hm (off:=0) (n:=(minD a).n)
 refine bs (yL (minD a).L (fun i=>((i:Int),(a.L:Int),(((minD a).n+1:Nat):Int),((0:Nat):Int),((0:Nat):Int),(ew (minD a) 0++tab i fun x=>dM (minD a).n x ((minD a).nx (minD a).st x)).map Ed.enc)) (((minD a).L:Int),false,(a.L:Int),(((minD a).n+1:Nat):Int),((0:Nat):Int),((0:Nat):Int),(sd (minD a)).map Ed.enc) (by rw[MK,List.append_nil];rfl) (fun x hx=> ?_) ?_) ?_
 ·simp only[OE,Dj,un]
  refine bT (dE hx) ?_
  refine bs (rG hx) ?_
  rw[show (nV ((minD a).nx (minD a).st x)).toInt=(((minD a).nx (minD a).st x:Nat):Int) from rfl]
  refine bs (HU (by rw[List.length_append,dJ];unfold ew;omega)) ?_
  rw[cN (by omega),lG,←List.append_assoc]
  rfl
 ·simp only[OE,Dj,un]
  refine bF (bu (Nat.le_refl _)) ?_
  rw[bu (Nat.le_refl _)]
  rfl
 ·simp only[un]
  have p1:(2:Nat)^(minD a).n<2^64:=Nat.pow_lt_pow_right (by omega) (by omega)
  have l1:=Yv hm
  refine bs (Yg (n:=(minD a).n) (f:=(minD a).fin) (fun e he=>Yt (OB hm he)) (by omega) (by omega)) ?_
  refine bs (HV (q:=(minD a).n) (by omega) (by omega)) ?_
  refine bs (Ye (q:=(minD a).n) (by omega) (by omega)) ?_
  rw[Nat.zero_or]
  refine bs (Oh (n:=(minD a).n) (f:=(minD a).fin) (off:=0) (by omega) p1) ?_
  rw[hL] at hr
  refine bs hr ?_
  show _=some (gf (fR (cQ (minD a).L _ _ _ _) a.L _) (n7 (cQ (minD a).L _ _ _ _) a.L _))
  rw[hL]
  rfl
theorem akz (hs:64<(minD a).n+1):CC uT (dj a)=some (gf zD 3):=by
 have h1:=(dX h).di
 refine YB ?_
 unfold OF
 refine bs (Oj h) (bF rfl ?_)
 have e0:(V.nth ((gf (minD a) 0).drop 3) 0).toList=(minD a).bz:=rfl
 rw[e0,Da.kW,cN (by omega)]
 refine bs (Yf hs) (bT rfl ?_)
 rfl
theorem akA:tD (CC uT (dj a)) a.L ((minD a).n+1) (ju fun u=>a.acc a.st u=true):=by
 have hm:=dX h
 have hL:=ky h
 by_cases hs:(minD a).n+1≤64
 ·have hr:=Yw hm hs
  have he:=aky h hs
  unfold Oz at he
  rw[←hL] at he⊢
  refine tD.of hr he fun w hw=> ?_
  rw[aks hm hw]
  refine ju.ext (fun u hu=> ?_) hw
  rw[o0 h (hL▸hu)]
 ·exact .inr ⟨akz h (by omega),by omega⟩
end
theorem Dk {w:List UInt8} {L:Int}:fl w L↔1≤L∧L≤6∧w.length≤2048∧∀b∈w,0≤(b.toNat:Int)-97∧(b.toNat:Int)-97<L:=by
 unfold fl
 refine and_congr Iff.rfl (and_congr Iff.rfl (and_congr Iff.rfl ⟨fun h b hb=> ?_,fun h i hi=> ?_⟩))
 ·obtain ⟨i,hi,rfl⟩:=List.mem_iff_getElem.1 hb
  have:=h i hi
  unfold gF at this
  rwa [fA hi] at this
 ·unfold gF
  rw[fA hi]
  exact h _ (List.getElem_mem hi)
theorem fl.part {w v:List UInt8} {L:Int} (h:fl w L) (hl:v.length≤w.length) (hm: ∀b∈v,b∈w):fl v L:=by
 obtain ⟨h1,h2,h3,h4⟩:=Dk.1 h
 exact Dk.2 ⟨h1,h2,by omega,fun b hb=>h4 b (hm b hb)⟩
theorem fl.left {u v:List UInt8} {L:Int} (h:fl (u++v) L):fl u L:=h.part (by simp) fun b hb=>List.mem_append_left _ hb
theorem fl.right {u v:List UInt8} {L:Int} (h:fl (u++v) L):fl v L:=h.part (by simp) fun b hb=>List.mem_append_right _ hb
theorem fl.app {u v:List UInt8} {L:Int} (h1:fl u L) (h2:fl v L) (hl:u.length+v.length≤2048):fl (u++v) L:=by
 obtain ⟨a1,a2,_,a4⟩:=Dk.1 h1
 obtain ⟨_,_,_,b4⟩:=Dk.1 h2
 refine Dk.2 ⟨a1,a2,by rw[List.length_append];exact hl,fun b hb=> ?_⟩
 rcases List.mem_append.1 hb with hb|hb
 ·exact a4 b hb
 ·exact b4 b hb
section
variable {a b:Da} (ha:a.Ok) (hb:b.Ok) (hL:a.L=b.L)
include ha hb hL
theorem Dl:tD (CC pH (dt a (dj b))) a.L ((minD a).n+(minD b).n) fun w=> ∃u v,w=u++v∧a.acc a.st u=true∧b.acc b.st v=true:=by
 have hm:=dX ha
 have hk:=dX hb
 have vV:=ky ha
 have Ox:=ky hb
 have m7:(minD a).L=(minD b).L:=by rw[vV,Ox,hL]
 by_cases hs:(minD a).n+(minD b).n≤64
 ·have hr:=Yu hm hk m7 hs
  have he:=akm ha hb hL hs
  unfold Dh at he
  rw[vV] at hr he
  refine tD.of hr he fun w hw=> ?_
  rw[akp hm hk m7 (by rw[vV];exact hw)]
  constructor
  ·rintro ⟨u,v,rfl,h1,h2⟩
   obtain ⟨w1,w2⟩:=WL.app.1 hw
   exact ⟨u,v,rfl,by rw[←o0 ha w1];exact h1,by rw[←o0 hb (hL▸w2)];exact h2⟩
  ·rintro ⟨u,v,rfl,h1,h2⟩
   obtain ⟨w1,w2⟩:=WL.app.1 hw
   exact ⟨u,v,rfl,by rw[o0 ha w1];exact h1,by rw[o0 hb (hL▸w2)];exact h2⟩
 ·exact .inr ⟨akn ha hb hL (by omega),by omega⟩
end
noncomputable def OG (C:ae) (bW cC:Int) (cA cD:List V) (cI cO:Int) (cP cU:List V) (op:Int):Option (List V):=
 (C As [.int .i64 bW,.int .i64 cC,.list ak cA,.list an cD,.int .i64 cI,.int .i64 cO,.list ak cP,.list an cU]).bind fun r1=>
 bif (((V.nth ((r1.drop 2).drop 2) 0).toInt):Int) != 0 then
  some [.int .i64 0,.int .i64 0,.int .i64 ((V.nth ((r1.drop 2).drop 2) 0).toInt),.list ak ([]:List V),.list an ([]:List V)]
 else
  (C Av [.int .i64 ((V.nth r1 0).toInt),.int .i64 ((V.nth (r1.drop 1) 0).toInt),.list ak ((V.nth (r1.drop 5) 0).toList),.list an ((V.nth ((r1.drop 5).drop 1) 0).toList),.int .i64 ((V.nth (r1.drop 2) 0).toInt),.int .i64 ((V.nth ((r1.drop 2).drop 1) 0).toInt),.list ak ((V.nth (((r1.drop 5).drop 1).drop 1) 0).toList),.list an ((V.nth ((((r1.drop 5).drop 1).drop 1).drop 1) 0).toList),.int .i64 op]).bind fun r2=>
  bif (((V.nth (r2.drop 2) 0).toInt):Int) != 0 then
  some [.int .i64 0,.int .i64 0,.int .i64 ((V.nth (r2.drop 2) 0).toInt),.list ak ([]:List V),.list an ([]:List V)]
  else
  (C qW [.int .i64 ((V.nth r2 0).toInt),.int .i64 ((V.nth (r2.drop 1) 0).toInt),.list ak ((V.nth (r2.drop 3) 0).toList),.list an ((V.nth ((r2.drop 3).drop 1) 0).toList)]).bind fun r3=>
  some [.int .i64 ((V.nth r3 0).toInt),.int .i64 ((V.nth (r3.drop 1) 0).toInt),.int .i64 0,.list ak ((V.nth (r3.drop 2) 0).toList),.list an ((V.nth ((r3.drop 2).drop 1) 0).toList)]
theorem YC {bW cC:Int} {cA cD:List V} {cI cO:Int} {cP cU:List V} {op:Int} {r:Option (List V)} (h:OG CC bW cC cA cD cI cO cP cU op=r):CC xm [.int .i64 bW,.int .i64 cC,.list ak cA,.list an cD,.int .i64 cI,.int .i64 cO,.list ak cP,.list an cU,.int .i64 op]=r:=
 bh (key:=28) (L:=db) (bs:=[]) (by kernel_rfl) au (Eq.trans (by kernel_rfl) h)
noncomputable def qc (a b:Da) (op:Nat):Da:=minD (jL (minD a) (minD b) op)
section
variable {a b:Da} (ha:a.Ok) (hb:b.Ok) (hL:a.L=b.L) {op:Nat}
include ha hb hL
theorem se:(minD a).L=(minD b).L:=by rw[ky ha,ky hb,hL]
theorem OH (ho:op≤15) (hn: ¬jM (minD a) (minD b)):CC xm (dt a (dt b [.int .i64 (op:Int)]))=some (gf (qc a b op) 0):=by
 refine YC ?_
 unfold OG
 refine bs (H0 ha hb hL) (bF rfl ?_)
 have hp:=agz (dX ha) (dX hb) (se ha hb hL) ho hn
 refine bs hp (bF rfl ?_)
 refine bs (BW (B1 (op:=op) (dX ha) (dX hb) (se ha hb hL) hn)) ?_
 rfl
theorem YD (ho:op≤15) (hn:jM (minD a) (minD b)):CC xm (dt a (dt b [.int .i64 (op:Int)]))=some (gf zD 3):=by
 refine YC ?_
 unfold OG
 refine bs (H0 ha hb hL) (bF rfl ?_)
 refine bs (agA (dX ha) (dX hb) (se ha hb hL) ho hn) (bT rfl ?_)
 rfl
theorem akB {m:Nat} (h1:a.n≤m) (h2:b.n≤m) (hm:m*m≤512): ¬jM (minD a) (minD b):=by
 refine agC (dX ha) (dX hb) (se ha hb hL) ?_
 have h3:=tC ha
 have h4:=tC hb
 exact Nat.le_trans (Nat.mul_le_mul (show (minD a).n≤m by omega) (show (minD b).n≤m by omega)) hm
theorem YE (hn: ¬jM (minD a) (minD b)):(qc a b op).Ok:=dX (B1 (dX ha) (dX hb) (se ha hb hL) hn)
theorem YF (hn: ¬jM (minD a) (minD b)):(qc a b op).L=a.L:=(ky (B1 (op:=op) (dX ha) (dX hb) (se ha hb hL) hn)).trans (ky ha)
theorem YG (hn: ¬jM (minD a) (minD b)) {w:List Nat} (hw:WL a.L w):(qc a b op).acc (qc a b op).st w=ya op (a.acc a.st w) (b.acc b.st w):=by
 have aw:=B1 (op:=op) (dX ha) (dX hb) (se ha hb hL) hn
 have YH:WL (minD a).L w:=by rw[ky ha];exact hw
 have h1:=o0 aw (w:=w) YH
 have h2:=agB (dX ha) (dX hb) (se ha hb hL) (op:=op) YH
 have h3:(jL (minD a) (minD b) op).st=0:=rfl
 rw[h3] at h1
 unfold qc
 rw[h1,h2,o0 ha hw,o0 hb (hL▸hw)]
end
theorem WT.OI {P:Program} {t:TypeId} {x:V} (hu:P.underlying t=some (.int .i64)) (h:WT P t x): ∃n:Int,x= .int .i64 n∧ -9223372036854775808≤n∧n≤9223372036854775807:=by
 obtain ⟨n,rfl,h1,h2⟩:=h.eC hu
 have e1:IntKind.min .i64= -9223372036854775808:=by decide
 have e2:IntKind.max .i64=9223372036854775807:=by decide
 rw[e1] at h1
 rw[e2] at h2
 exact ⟨n,rfl,h1,h2⟩
theorem akC {α:Type} {l:List α} (h:l.length=4): ∃a b c d,l=[a,b,c,d]:=by
 match l,h with
 | [a,b,c,d],_=>exact ⟨a,b,c,d,rfl⟩
theorem akD {x:V} (h:ik Tryd.prog an x): ∃r:List Int,x=kS r∧(r.length≤maxLen∧∀q∈r,-9223372036854775808≤q∧q≤9223372036854775807):=by
 have hu:Tryd.prog.underlying an=some (.slice aY):=by kernel_rfl
 have hi:Tryd.prog.underlying aY=some (.int .i64):=by kernel_rfl
 obtain ⟨es,rfl,e1,e2⟩:=WT.Ki hu (ik.one (by kernel_rfl) h)
 obtain ⟨r,rfl,hr⟩:=Kj (f:=iV) (p:=fun q=> -9223372036854775808≤q∧q≤9223372036854775807) fun y hy=>WT.OI hi (ik.one (by kernel_rfl) (e2 y hy))
 exact ⟨r,rfl,by simpa using e1,hr⟩
def Df.enc (d:Df):V:= .agg (kz d [])
theorem Ig {t:TypeId} {x:V} (ha:bE Tryd.prog t=true) (he:aO Tryd.prog t=[aY,aY,Kv,Kw]) (h:ik Tryd.prog t x): ∃d:Df,x=d.enc∧d.Ok:=by
 obtain ⟨xs,rfl,hl,hx⟩:=ik.kH ha h
 rw[he] at hl
 obtain ⟨a,b,c,d,rfl⟩:=akC hl
 have hu:Tryd.prog.underlying aY=some (.int .i64):=by kernel_rfl
 have hb:Tryd.prog.underlying ak=some .bool:=by kernel_rfl
 have hv:Tryd.prog.underlying Kv=some (.slice ak):=by kernel_rfl
 have hw:Tryd.prog.underlying Kw=some (.slice an):=by kernel_rfl
 obtain ⟨L,rfl,l1,l2⟩:=WT.OI hu (hx 0 aY a (by rw[he];rfl) rfl)
 obtain ⟨S,rfl,s1,s2⟩:=WT.OI hu (hx 1 aY b (by rw[he];rfl) rfl)
 obtain ⟨fs,rfl,f1,f2⟩:=WT.Ki hv (hx 2 Kv c (by rw[he];rfl) rfl)
 obtain ⟨ns,rfl,n1,n2⟩:=WT.Ki hw (hx 3 Kw d (by rw[he];rfl) rfl)
 obtain ⟨F,rfl⟩:=R7 (f:=V.bool) fun y hy=>WT.jB hb (ik.one (by kernel_rfl) (f2 y hy))
 obtain ⟨N,rfl,hN⟩:=Kj (f:=kS) fun y hy=>akD (n2 y hy)
 exact ⟨⟨L,S,F,N⟩,rfl,l1,l2,s1,s2,by simpa using f1,by simpa using n1,hN⟩
end Go.AM
set_option maxRecDepth 100000
namespace Go.AM
open Go.Proofs
namespace Da
def pre (a:Da) (k:Nat) (g:Nat→List Nat):Da:=⟨k,a.st,a.F,tab a.n fun q=>tab k fun x=>a.run q (g x)⟩
theorem Ok.pre {a:Da} (h:a.Ok) {k:Nat} {g:Nat→List Nat} (h1:1≤k) (h6:k≤6) (hg: ∀x,x<k→WL a.L (g x)):(a.pre k g).Ok:=⟨h1,h6,by simp[Da.pre,n],fun r hr=>by
 obtain ⟨q,hq,rfl⟩:=td.1 hr
 refine ⟨by simp[Da.pre],fun s hs=> ?_⟩
 obtain ⟨x,hx,rfl⟩:=td.1 hs
 exact h.xC _ hq (hg x hx),h.s,h.di⟩
end Da
section
variable {a:Da} (h:a.Ok) {w:List UInt8}
include h
end
section
variable {d:Df} (h:d.Ok) (hv:d.val≠0)
include h hv
end
def YI (l:List (List UInt8)) (L:Int):Prop:= ∀i,i<l.length→fl (l.getD i []) L
instance (l:List (List UInt8)) (L:Int):Decidable (YI l L):=by unfold YI;infer_instance
section
variable {a:Da} (h:a.Ok) {l:List (List UInt8)}
include h
end
end Go.AM
set_option maxRecDepth 100000
namespace Go.AM
open Go.Proofs
def eO:Da:=⟨2,0,[false,true],[[1,0],[0,1]]⟩
def m8:Da:=⟨2,0,[false,true],[[1,0],[1,1]]⟩
theorem Dm:eO.Ok:=⟨by decide,by decide,by decide,by decide,by decide,by decide⟩
theorem Ia:m8.Ok:=⟨by decide,by decide,by decide,by decide,by decide,by decide⟩
theorem akE:eO.Canon eO.L (eO.acc eO.st) where
 ok:=Dm
 hL:=rfl
 st:=rfl
 num:=⟨by decide,by decide,by decide⟩
 red:=fun p q hp hq h=>by
  have h0:=h [] WL.nil
  have hp':p<2:=hp
  have b9:q<2:=hq
  have: ∀p,p<2→∀q,q<2→eO.acc p []=eO.acc q []→p=q:=by decide
  exact this p hp' q b9 h0
 jJ:=fun _ _=>rfl
theorem akF:m8.Canon m8.L (m8.acc m8.st) where
 ok:=Ia
 hL:=rfl
 st:=rfl
 num:=⟨by decide,by decide,by decide⟩
 red:=fun p q hp hq h=>by
  have h0:=h [] WL.nil
  have hp':p<2:=hp
  have b9:q<2:=hq
  have: ∀p,p<2→∀q,q<2→m8.acc p []=m8.acc q []→p=q:=by decide
  exact this p hp' q b9 h0
 jJ:=fun _ _=>rfl
theorem YJ:minD eO=eO:=(xX Dm akE).symm
theorem akG:iW (yN eO) 2 2=m8:=by kernel_rfl
theorem YK: ¬iw (yN eO) 2 2:=by
 have:=yd (oY (Yq Dm (by decide))) (2^2)
 exact fun h=>absurd (Nat.lt_of_lt_of_le h this) (by decide)
theorem akH:fR (yN eO) 2 2=m8:=by
 unfold fR
 rw[if_neg YK,akG]
 exact (xX Ia akF).symm
noncomputable def YL (C:ae):Option (List V):=
 (C Fi []).bind fun r1=>
 (C Fe [.int .i64 ((V.nth r1 0).toInt),.int .i64 ((V.nth (r1.drop 1) 0).toInt),.list ak ((V.nth (r1.drop 2) 0).toList),.list an ((V.nth ((r1.drop 2).drop 1) 0).toList)]).bind fun r2=>
 bif (((V.nth (r2.drop 2) 0).toInt):Int)==0 then
  bif ((((V.nth (r2.drop 3) 0).toList).length:Int):Int)==2 then
  (C Aq [.int .i64 ((V.nth r2 0).toInt),.int .i64 ((V.nth (r2.drop 1) 0).toInt),.list ak ((V.nth (r2.drop 3) 0).toList),.list an ((V.nth ((r2.drop 3).drop 1) 0).toList),.str [98,97,97]]).bind fun r3=>
  bif (V.nth r3 0).toBool then
   (C Aq [.int .i64 ((V.nth r2 0).toInt),.int .i64 ((V.nth (r2.drop 1) 0).toInt),.list ak ((V.nth (r2.drop 3) 0).toList),.list an ((V.nth ((r2.drop 3).drop 1) 0).toList),.str [98,98]]).bind fun r4=>
   some [.bool (!((V.nth r4 0).toBool))]
  else
   some [.bool false]
  else
  some [.bool false]
 else
  some [.bool false]
theorem akI {r:Option (List V)} (h:YL CC=r):CC lB []=r:=
 bh (key:=19) (L:=db) (bs:=[]) (by kernel_rfl) au (Eq.trans (by kernel_rfl) h)
noncomputable def akJ (C:ae):Option (List V):=
 some [.int .i64 2,.int .i64 0,.list ak ([.bool false,.bool true]:List V),.list an ([.list aY ([.int .i64 1,.int .i64 0]:List V),.list aY ([.int .i64 0,.int .i64 1]:List V)]:List V)]
theorem akK {r:Option (List V)} (h:akJ CC=r):CC Fi []=r:=
 bh (key:=59) (L:=db) (bs:=[]) (by kernel_rfl) au (Eq.trans (by kernel_rfl) h)
def YM:List Ed:=[⟨0,0,1⟩,⟨0,1,0⟩,⟨1,0,0⟩,⟨1,1,1⟩,⟨0,0,0⟩,⟨0,1,0⟩,⟨1,0,1⟩,⟨1,1,1⟩]
def OJ:List Ed:=[⟨0,0,0⟩,⟨0,0,1⟩,⟨0,1,0⟩,⟨0,1,0⟩,⟨1,0,0⟩,⟨1,0,1⟩,⟨1,1,1⟩,⟨1,1,1⟩]
def Ib:List Ed:=[⟨0,0,0⟩,⟨0,0,1⟩,⟨0,1,0⟩,⟨1,0,0⟩,⟨1,0,1⟩,⟨1,1,1⟩]
theorem akL:ew eO 0++jR 2 2=YM:=by decide
theorem akM:CC Ay [.list ar (YM.map Ed.enc)]=some [.list ar (OJ.map Ed.enc)]:=ab2 (N:=40) (n:=40) (by kernel_rfl)
theorem akN:yN eO=⟨2,2,1,2,Ib⟩:=by kernel_rfl
theorem akO:CC qX (aN 2 2 (2^eO.st) (gI 0 eO.fin 0 2) (ew eO 0++jR 2 2))=some (NZ m8 0 ⟨2,2,1,2,Ib⟩):=by
 obtain ⟨b,e2⟩:=WV (l:=OJ) (by decide)
 have hc:iz OJ=Ib:=by decide
 rw[hc] at e2
 have e3:=XV (oY (Yq Dm (by decide)))
 rw[show cQ eO.L eO.n (2^eO.st) (gI 0 eO.fin 0 eO.n) (ew eO 0++jR eO.L eO.n)=yN eO from rfl,show eO.L=2 from rfl,show eO.n=2 from rfl,akH,show n7 (yN eO) 2 2=0 from if_neg YK,akN] at e3
 rw[akL]
 refine XU ?_
 unfold NY
 refine bs akM ?_
 refine bs e2 ?_
 cases b
 ·refine bF rfl ?_
  refine bs e3 ?_
  rfl
 ·refine bT rfl ?_
  refine bs e3 ?_
  rfl
theorem yP:CC lB []=some [.bool true]:=by
 have h1:CC Fi []=some (dj eO):=akK rfl
 have h2:=akh Dm (X:=m8) (e:=0) (n:=⟨2,2,1,2,Ib⟩) (by rw[YJ];decide) (by rw[YJ];exact akO)
 refine akI ?_
 unfold YL
 refine bs h1 ?_
 refine bs h2 ?_
 refine bT rfl (bT (by decide) ?_)
 refine bs (UT Ia (w:=[98,97,97]) (by decide)) ?_
 refine bT (by decide) ?_
 refine bs (UT Ia (w:=[98,98]) (by decide)) ?_
 rw[show m8.acc m8.st (lets [98,98])=false by decide]
 rfl
noncomputable def Ic (C:ae) (bW cC:Int) (cA cD:List V) (cI cO:Int) (cP cU:List V) (yQ yR:Int) (yS yT:List V):Option (List V):=
 (C Ap [.int .i64 bW,.int .i64 cC,.list ak cA,.list an cD,.int .i64 cI,.int .i64 cO,.list ak cP,.list an cU,.int .i64 3]).bind fun r1=>
 bif !((V.nth r1 0).toBool) then
  (C lB []).bind fun r2=>
  some [.bool ((V.nth r2 0).toBool)]
 else
  (C Ap [.int .i64 cI,.int .i64 cO,.list ak cP,.list an cU,.int .i64 yQ,.int .i64 yR,.list ak yS,.list an yT,.int .i64 3]).bind fun r3=>
  bif !((V.nth r3 0).toBool) then
  (C lB []).bind fun r4=>
  some [.bool ((V.nth r4 0).toBool)]
  else
  (C xm [.int .i64 cI,.int .i64 cO,.list ak cP,.list an cU,.int .i64 yQ,.int .i64 yR,.list ak yS,.list an yT,.int .i64 14]).bind fun r5=>
  (C pH [.int .i64 bW,.int .i64 cC,.list ak cA,.list an cD,.int .i64 cI,.int .i64 cO,.list ak cP,.list an cU]).bind fun r6=>
  (C pH [.int .i64 bW,.int .i64 cC,.list ak cA,.list an cD,.int .i64 yQ,.int .i64 yR,.list ak yS,.list an yT]).bind fun r7=>
  bif (((V.nth (r5.drop 2) 0).toInt):Int) != 0 then
   some [.bool false]
  else
   bif (((V.nth (r6.drop 2) 0).toInt):Int) != 0 then
   some [.bool false]
   else
   bif (((V.nth (r7.drop 2) 0).toInt):Int) != 0 then
    some [.bool false]
   else
    (C pH [.int .i64 bW,.int .i64 cC,.list ak cA,.list an cD,.int .i64 ((V.nth r5 0).toInt),.int .i64 ((V.nth (r5.drop 1) 0).toInt),.list ak ((V.nth (r5.drop 3) 0).toList),.list an ((V.nth ((r5.drop 3).drop 1) 0).toList)]).bind fun r8=>
    (C xm [.int .i64 ((V.nth r6 0).toInt),.int .i64 ((V.nth (r6.drop 1) 0).toInt),.list ak ((V.nth (r6.drop 3) 0).toList),.list an ((V.nth ((r6.drop 3).drop 1) 0).toList),.int .i64 ((V.nth r7 0).toInt),.int .i64 ((V.nth (r7.drop 1) 0).toInt),.list ak ((V.nth (r7.drop 3) 0).toList),.list an ((V.nth ((r7.drop 3).drop 1) 0).toList),.int .i64 14]).bind fun r9=>
    bif (((V.nth (r8.drop 2) 0).toInt):Int) != 0 then
    bif (((V.nth (r8.drop 2) 0).toInt):Int)==0 then
     bif (((V.nth (r9.drop 2) 0).toInt):Int)==0 then
     (C lB []).bind fun r10=>
     some [.bool ((V.nth r10 0).toBool)]
     else
     bif (((V.nth (r9.drop 2) 0).toInt):Int)==3 then
      (C lB []).bind fun yG=>
      some [.bool ((V.nth yG 0).toBool)]
     else
      some [.bool false]
    else
     bif (((V.nth (r8.drop 2) 0).toInt):Int)==3 then
     bif (((V.nth (r9.drop 2) 0).toInt):Int)==0 then
      (C lB []).bind fun jN=>
      some [.bool ((V.nth jN 0).toBool)]
     else
      bif (((V.nth (r9.drop 2) 0).toInt):Int)==3 then
      (C lB []).bind fun Nq=>
      some [.bool ((V.nth Nq 0).toBool)]
      else
      some [.bool false]
     else
     some [.bool false]
    else
    bif (((V.nth (r9.drop 2) 0).toInt):Int) != 0 then
     bif (((V.nth (r8.drop 2) 0).toInt):Int)==0 then
     bif (((V.nth (r9.drop 2) 0).toInt):Int)==0 then
      (C lB []).bind fun iY=>
      some [.bool ((V.nth iY 0).toBool)]
     else
      bif (((V.nth (r9.drop 2) 0).toInt):Int)==3 then
      (C lB []).bind fun eH=>
      some [.bool ((V.nth eH 0).toBool)]
      else
      some [.bool false]
     else
     bif (((V.nth (r8.drop 2) 0).toInt):Int)==3 then
      bif (((V.nth (r9.drop 2) 0).toInt):Int)==0 then
      (C lB []).bind fun fQ=>
      some [.bool ((V.nth fQ 0).toBool)]
      else
      bif (((V.nth (r9.drop 2) 0).toInt):Int)==3 then
       (C lB []).bind fun dG=>
       some [.bool ((V.nth dG 0).toBool)]
      else
       some [.bool false]
     else
      some [.bool false]
    else
     bif (decide (0≤bW))&&((decide (bW≤bW))&&(Nat.ble (((bW:Int).toNat)*8) bH)) then
     (C uT [.int .i64 bW,.int .i64 0,.list ak ([.bool false]:List V),.list an ([.list aY (List.replicate ((bW:Int).toNat) (V.int .i64 0))]:List V)]).bind fun jt=>
     (C pH [.int .i64 bW,.int .i64 cC,.list ak cA,.list an cD,.int .i64 ((V.nth jt 0).toInt),.int .i64 ((V.nth (jt.drop 1) 0).toInt),.list ak ((V.nth (jt.drop 3) 0).toList),.list an ((V.nth ((jt.drop 3).drop 1) 0).toList)]).bind fun dk=>
     (C pH [.int .i64 bW,.int .i64 0,.list ak ([.bool false]:List V),.list an ([.list aY (List.replicate ((bW:Int).toNat) (V.int .i64 0))]:List V),.int .i64 bW,.int .i64 cC,.list ak cA,.list an cD]).bind fun fD=>
     (C lC [.int .i64 ((V.nth r8 0).toInt),.int .i64 ((V.nth (r8.drop 1) 0).toInt),.list ak ((V.nth (r8.drop 3) 0).toList),.list an ((V.nth ((r8.drop 3).drop 1) 0).toList)]).bind fun oW=>
     bif (((V.nth oW 0).toInt):Int)==0 then
      (C uS [.int .i64 ((V.nth r8 0).toInt),.int .i64 ((V.nth (r8.drop 1) 0).toInt),.list ak ((V.nth (r8.drop 3) 0).toList),.list an ((V.nth ((r8.drop 3).drop 1) 0).toList),.int .i64 ((V.nth r9 0).toInt),.int .i64 ((V.nth (r9.drop 1) 0).toInt),.list ak ((V.nth (r9.drop 3) 0).toList),.list an ((V.nth ((r9.drop 3).drop 1) 0).toList)]).bind fun jr=>
      bif (V.nth jr 0).toBool then
      bif (((V.nth (jt.drop 2) 0).toInt):Int)==0 then
       bif (((V.nth (dk.drop 2) 0).toInt):Int)==0 then
       bif (((V.nth (fD.drop 2) 0).toInt):Int)==0 then
        (C xn [.int .i64 bW,.int .i64 cC,.list ak cA,.list an cD]).bind fun yH=>
        (C uS [.int .i64 ((V.nth dk 0).toInt),.int .i64 ((V.nth (dk.drop 1) 0).toInt),.list ak ((V.nth (dk.drop 3) 0).toList),.list an ((V.nth ((dk.drop 3).drop 1) 0).toList),.int .i64 ((V.nth yH 0).toInt),.int .i64 ((V.nth (yH.drop 1) 0).toInt),.list ak ((V.nth (yH.drop 2) 0).toList),.list an ((V.nth ((yH.drop 2).drop 1) 0).toList)]).bind fun NN=>
        bif (V.nth NN 0).toBool then
        (C xn [.int .i64 bW,.int .i64 0,.list ak ([.bool false]:List V),.list an ([.list aY (List.replicate ((bW:Int).toNat) (V.int .i64 0))]:List V)]).bind fun vE=>
        (C uS [.int .i64 ((V.nth fD 0).toInt),.int .i64 ((V.nth (fD.drop 1) 0).toInt),.list ak ((V.nth (fD.drop 3) 0).toList),.list an ((V.nth ((fD.drop 3).drop 1) 0).toList),.int .i64 ((V.nth vE 0).toInt),.int .i64 ((V.nth (vE.drop 1) 0).toInt),.list ak ((V.nth (vE.drop 2) 0).toList),.list an ((V.nth ((vE.drop 2).drop 1) 0).toList)]).bind fun r26=>
        bif (V.nth r26 0).toBool then
         (C lB []).bind fun r27=>
         some [.bool ((V.nth r27 0).toBool)]
        else
         some [.bool false]
        else
        some [.bool false]
       else
        some [.bool false]
       else
       some [.bool false]
      else
       some [.bool false]
      else
      some [.bool false]
     else
      some [.bool false]
     else none
theorem OK {bW cC:Int} {cA cD:List V} {cI cO:Int} {cP cU:List V} {yQ yR:Int} {yS yT:List V} {r:Option (List V)} (h:Ic CC bW cC cA cD cI cO cP cU yQ yR yS yT=r):CC Ku [.int .i64 bW,.int .i64 cC,.list ak cA,.list an cD,.int .i64 cI,.int .i64 cO,.list ak cP,.list an cU,.int .i64 yQ,.int .i64 yR,.list ak yS,.list an yT]=r:=
 bh (key:=14) (L:=db) (bs:=[]) (by kernel_rfl) au (Eq.trans (by kernel_rfl) h)
def ld (L:Nat):Da:=⟨L,0,[false],[List.replicate L 0]⟩
section
variable {L:Nat} (h1:1≤L) (h6:L≤6)
theorem OL {q:Nat} {w:List Nat}:(ld L).acc q w=false:=by
 show ([false]:List Bool).getD ((ld L).run q w) false=false
 cases (ld L).run q w<;>rfl
theorem akP {l:List V}:dt (ld L) l= .int .i64 (L:Int):: .int .i64 0:: .list ak [.bool false]:: .list an [.list aY (List.replicate ((L:Int).toNat) (V.int .i64 0))]::l:=by
 have e:(tab L fun x=>iV ((ld L).nx 0 x))=List.replicate ((L:Int).toNat) (V.int .i64 0):=by
  rw[Int.toNat_natCast,lH]
  refine dU fun x hx=> ?_
  have:(ld L).nx 0 x=0:=by
   show (List.replicate L 0).getD x 0=0
   rw[List.getD_eq_getElem?_getD,List.getElem?_replicate]
   split<;>rfl
  rw[this];rfl
 show _::_::_::V.list an [fo L ((ld L).nx 0)]::l=_
 unfold fo
 rw[e]
 rfl
include h1 h6
theorem akQ:(ld L).Ok where
 l1:=h1
 l6:=h6
 nN:=rfl
 row:=fun r hr=>by
  rw[List.mem_singleton.1 (show r∈[List.replicate L 0] from hr)]
  refine ⟨by simp[ld],fun q hq=> ?_⟩
  rw[(List.mem_replicate.1 hq).2]
  exact Nat.one_pos
 s:=Nat.one_pos
 di:=by show 1≤512;omega
end
theorem YQ (d:Df) (hd:d.Ok) (e:Df) (he:e.Ok) (f:Df) (hf:f.Ok):CC Ku (kz d (kz e (kz f [])))=some [.bool true]:=by
 have yU:=Ym hd he 3
 have Dn:=Ym he hf 3
 by_cases h1:(d.F.length:Int)≤3∧(e.F.length:Int)≤3∧vO d e=0
 case neg=>
  rw[decide_eq_false h1] at yU
  refine OK ?_
  unfold Ic
  exact bs yU (bT rfl (bs yP rfl))
 rw[decide_eq_true h1] at yU
 by_cases h2:(e.F.length:Int)≤3∧(f.F.length:Int)≤3∧vO e f=0
 case neg=>
  rw[decide_eq_false h2] at Dn
  refine OK ?_
  unfold Ic
  refine bs yU (bF rfl ?_)
  exact bs Dn (bT rfl (bs yP rfl))
 rw[decide_eq_true h2] at Dn
 obtain ⟨a,b,ha,hb,hL,rfl,rfl⟩:=Yl h1.2.2
 obtain ⟨b',c,_,hc,m7,hbb,rfl⟩:=Yl h2.2.2
 have n1:(a.n:Int)≤3:=h1.1
 have n2:(b.n:Int)≤3:=h1.2.1
 have n3:(c.n:Int)≤3:=h2.2.1
 have m7:b.L=c.L:=by
  have:(b.df.L:Int)=b'.df.L:=by rw[hbb]
  have e1:(b.L:Int)=(b'.L:Int):=this
  omega
 have hLc:=hL.trans m7
 have ma:=tC ha
 have mb:=tC hb
 have mc:=tC hc
 have l1:=ha.l1
 have l6:=ha.l6
 have o1:=akB hb hc m7 (m:=3) (by omega) (by omega) (by omega)
 have kB:=YE hb hc m7 (op:=14) o1
 have LB:=YF hb hc m7 (op:=14) o1
 obtain ⟨u,hu,ru,_⟩:=(Dl ha hb hL).small (by omega)
 obtain ⟨v,hv,rv,_⟩:=(Dl ha hc hLc).small (by omega)
 have hX:=Dl ha kB (by rw[LB,hL])
 have tE:u.L=v.L:=by rw[ru.hL,rv.hL]
 have hN:=akQ l1 l6
 have mN:(minD (ld a.L)).n≤1:=tC hN
 obtain ⟨i,hi,ri,li⟩:=(akA hN).small (by omega)
 have hLi:a.L=i.L:=ri.hL.symm
 have li4:i.n≤4:=Nat.le_trans li (show 2^((minD (ld a.L)).n+1)≤2^2 from Nat.pow_le_pow_right (by omega) (by omega))
 have mi:=tC ri.ok
 obtain ⟨x,hx,rx,_⟩:=(Dl ha ri.ok hLi).small (by omega)
 obtain ⟨y,hy,ry,_⟩:=(Dl hN ha rfl).small (by omega)
 have ex:x=minD a:=by
  refine rx.eq (Yy ha) fun w hw=> ?_
  have hI: ∀z,WL a.L z→(i.acc i.st z=true↔z=[]):=fun z hz=>by
   rw[ri.jJ z hz,ju.iff]
   constructor
   ·rintro (h|⟨p,q,_,_,h,_⟩)
    ·exact h
    ·rw[OL] at h;cases h
   ·exact .inl
  constructor
  ·rintro ⟨p,q,rfl,g1,g2⟩
   rw[(hI q (WL.app.1 hw).2).1 g2,List.append_nil]
   exact g1
  ·intro g
   exact ⟨w,[],by simp,g,(hI [] WL.nil).2 rfl⟩
 have ey:y=minD (ld a.L):=by
  refine ry.eq (Yy hN) fun w hw=> ?_
  constructor
  ·rintro ⟨p,q,_,g1,_⟩
   rw[OL] at g1;cases g1
  ·intro g
   rw[OL] at g;cases g
 subst ex ey
 have hMN:=WE hN
 have kK:CC uT (dt (ld a.L) [])=some (gf i 0):=hi
 have YN:CC xn (dt (ld a.L) [])=some (dj (minD (ld a.L))):=hMN
 rw[akP] at kK YN hy
 rw[ha.leaves,hb.leaves,hc.leaves]
 rw[ha.leaves,hb.leaves] at yU
 rw[hb.leaves,hc.leaves] at Dn
 refine OK ?_
 unfold Ic
 refine bs yU (bF rfl ?_)
 refine bs Dn (bF rfl ?_)
 refine bs (OH hb hc m7 (op:=14) (by omega) o1) ?_
 refine bs hu ?_
 refine bs hv ?_
 refine bF rfl (bF rfl (bF rfl ?_))
 rcases hX with ⟨X,hX,rX,_⟩|⟨hX,_⟩
 ·refine bs hX ?_
  by_cases o2:jM (minD u) (minD v)
  ·refine bs (YD ru.ok rv.ok tE (op:=14) (by omega) o2) ?_
   refine bF rfl (bT rfl (bT rfl (bF rfl (bT rfl ?_))))
   exact bs yP rfl
  ·have kU:=YE ru.ok rv.ok tE (op:=14) o2
   have e:X=qc u v 14:=by
    have rU:mg (qc u v 14) a.L (fun w=>ya 14 (u.acc u.st w) (v.acc v.st w)=true):=⟨kU,by rw[YF ru.ok rv.ok tE o2,ru.hL],Oi (B1 (dX ru.ok) (dX rv.ok) (se ru.ok rv.ok tE) o2),fun w hw=>by rw[YG ru.ok rv.ok tE o2 (by rw[ru.hL];exact hw)]⟩
    refine rX.eq rU fun w hw=> ?_
    have Gd:ya 14 (u.acc u.st w) (v.acc v.st w)=true↔u.acc u.st w=true∨v.acc v.st w=true:=by
     cases u.acc u.st w<;>cases v.acc v.st w<;>decide
    rw[Gd,ru.jJ w hw,rv.jJ w hw]
    have OM: ∀z,WL a.L z→((qc b c 14).acc (qc b c 14).st z=true↔b.acc b.st z=true∨c.acc c.st z=true):=fun z hz=>by
     rw[YG hb hc m7 o1 (hL▸hz)]
     cases b.acc b.st z<;>cases c.acc c.st z<;>decide
    constructor
    ·rintro ⟨p,q,rfl,g1,g2⟩
     rcases (OM q (WL.app.1 hw).2).1 g2 with g2|g2
     ·exact .inl ⟨p,q,rfl,g1,g2⟩
     ·exact .inr ⟨p,q,rfl,g1,g2⟩
    ·rintro (⟨p,q,rfl,g1,g2⟩|⟨p,q,rfl,g1,g2⟩)
     ·exact ⟨p,q,rfl,g1,(OM q (WL.app.1 hw).2).2 (.inl g2)⟩
     ·exact ⟨p,q,rfl,g1,(OM q (WL.app.1 hw).2).2 (.inr g2)⟩
   subst e
   have hV:=UB kU.UF
   rw[kU.val,kU.leaves] at hV
   refine bs (OH ru.ok rv.ok tE (op:=14) (by omega) o2) ?_
   refine bF rfl (bF rfl (bT (kV (by omega) (by omega)) ?_))
   refine bs kK ?_
   refine bs hx ?_
   refine bs hy ?_
   refine bs hV (bT rfl ?_)
   refine bs kU.same (bT rfl ?_)
   refine bT rfl (bT rfl (bT rfl ?_))
   refine bs (WE ha) ?_
   refine bs (dX ha).same (bT rfl ?_)
   refine bs YN ?_
   refine bs (dX hN).same (bT rfl ?_)
   exact bs yP rfl
 ·refine bs hX ?_
  by_cases o2:jM (minD u) (minD v)
  ·refine bs (YD ru.ok rv.ok tE (op:=14) (by omega) o2) ?_
   refine bT rfl (bF rfl (bT rfl (bF rfl (bT rfl ?_))))
   exact bs yP rfl
  ·refine bs (OH ru.ok rv.ok tE (op:=14) (by omega) o2) ?_
   refine bT rfl (bF rfl (bT rfl (bT rfl ?_)))
   exact bs yP rfl
end Go.AM
