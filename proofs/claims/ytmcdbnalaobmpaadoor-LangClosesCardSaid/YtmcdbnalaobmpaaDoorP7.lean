/-
  Functions of the program, lifted to plain data.
-/
import Derived.Test.YtmcdbnalaobmpaaDoorP6
set_option linter.unusedVariables false
set_option linter.unusedSimpArgs false
set_option maxRecDepth 100000
namespace Go.AM
open Go.Proofs
noncomputable abbrev qM:Code:=cN Tryd.prog (aD.bd 50)
noncomputable def EI (C:ae) (p t46 t47:Int) (t52:List V) (t53 cS cU fy fA bn bh bp bq:Int) (uu dp cx cf cb:List V) (t54:Int) (ny:List V) {β:Type} (kn:(Int × (List V))→Option β) (kr:(Int × Bool × (List V))→Option β):Option β:=
 bif decide ((t54:Int)<t53) then
  (idx t52 t54).bind fun x4=>
  bif (decide (0≤p))&&(decide (p<(ny.length:Int))) then
  (ny[(p:Int).toNat]?).bind fun x5=>
  bif decide (0≤x4.toInt) then
   bif (decide (0≤p))&&(decide (p<(ny.length:Int))) then
   (ny[(p:Int).toNat]?).bind fun x6=>
   kn (IntKind.wrap .i64 (t54+1),ny.set ((p:Int).toNat) (.int .u64 (IntKind.wrap .u64 ((BitVec.ofInt (IntKind.bits .u64) x5.toInt|||BitVec.ofInt (IntKind.bits .u64) (IntKind.wrap .u64 (1*2^(min x4.toInt.toNat (IntKind.bits .u64))))).toNat))))
   else none
  else none
  else none
 else
  kr (t54,decide ((t54:Int)<t53),ny)
noncomputable def PZ (C:ae) (p t46 t47:Int) (t52:List V) (t53 cS cU fy fA bn bh bp bq:Int) (uu dp cx cf cb:List V):(Int × (List V))→Option ((Int × (List V)) ⊕ (Int × Bool × (List V))):=un fun t54 ny=>EI C p t46 t47 t52 t53 cS cU fy fA bn bh bp bq uu dp cx cf cb t54 ny (fun y=>some (.inl y)) (fun r=>some (.inr r))
noncomputable def EJ (C:ae) (t46 cS cU fy fA bn bh bp bq:Int) (uu dp cx cf cb:List V) (t47:Int) (ny:List V) {β:Type} (kn:(Int × (List V))→Option β) (kr:(Int × Bool × (List V))→Option β):Option β:=
 bif decide ((t47:Int)<t46) then
  bif (decide (0≤t47))&&(decide (t47<(uu.length:Int))) then
  (uu[(t47:Int).toNat]?).bind fun x3=>
  (Loop (PZ C t47 t46 t47 x3.toList (x3.toList.length:Int) cS cU fy fA bn bh bp bq uu dp cx cf cb) (0,ny)).bind (un fun (m8:Int)=>un fun (tW:Bool) (als:List V)=>
   kn (IntKind.wrap .i64 (t47+1),als))
  else none
 else
  kr (t47,decide ((t47:Int)<t46),ny)
noncomputable def P0 (C:ae) (t46 cS cU fy fA bn bh bp bq:Int) (uu dp cx cf cb:List V):(Int × (List V))→Option ((Int × (List V)) ⊕ (Int × Bool × (List V))):=un fun t47 ny=>EJ C t46 cS cU fy fA bn bh bp bq uu dp cx cf cb t47 ny (fun y=>some (.inl y)) (fun r=>some (.inr r))
noncomputable def EK (C:ae) (p t70 t71 t78 t79:Int) (t87:List V) (t88 cS cU fy fA:Int) (oG uv dp cx cf cb:List V) (t89 bn bh bp bq:Int) (db:List V) {β:Type} (kn:(Int × Int × Int × Int × Int × (List V))→Option β) (kr:(Int × Bool × Int × Int × Int × Int × (List V))→Option β):Option β:=
 bif decide ((t89:Int)<t88) then
  (idx t87 t89).bind fun Dp=>
  (C yf [.int .i64 p,.int .i64 t89,.int .i64 Dp.toInt,.int .i64 bn,.int .i64 bh,.int .u64 bp,.int .u64 bq,.list aF db]).bind fun eS=>
  kn (IntKind.wrap .i64 (t89+1),(V.nth eS 0).toInt,(V.nth (eS.drop 1) 0).toInt,(V.nth ((eS.drop 1).drop 1) 0).toInt,(V.nth (((eS.drop 1).drop 1).drop 1) 0).toInt,(V.nth (eS.drop 4) 0).toList)
 else
  kr (t89,decide ((t89:Int)<t88),bn,bh,bp,bq,db)
noncomputable def P1 (C:ae) (p t70 t71 t78 t79:Int) (t87:List V) (t88 cS cU fy fA:Int) (oG uv dp cx cf cb:List V):(Int × Int × Int × Int × Int × (List V))→Option ((Int × Int × Int × Int × Int × (List V)) ⊕ (Int × Bool × Int × Int × Int × Int × (List V))):=un fun t89=>un fun bn=>un fun bh=>un fun bp=>un fun bq db=>EK C p t70 t71 t78 t79 t87 t88 cS cU fy fA oG uv dp cx cf cb t89 bn bh bp bq db (fun y=>some (.inl y)) (fun r=>some (.inr r))
noncomputable def EL (C:ae) (p t70 t71 t78 cS cU fy fA:Int) (oG uv dp cx cf cb:List V) (t79 bn bh bp bq:Int) (db:List V) {β:Type} (kn:(Int × Int × Int × Int × Int × (List V))→Option β) (kr:(Int × Bool × Int × Int × Int × Int × (List V))→Option β):Option β:=
 bif decide ((t79:Int)<t78) then
  bif (decide (0≤t79))&&(decide (t79<(uv.length:Int))) then
  (uv[(t79:Int).toNat]?).bind fun fJ=>
  bif (decide (0≤fJ.toInt))&&(decide (fJ.toInt<(cb.length:Int))) then
   (cb[(fJ.toInt:Int).toNat]?).bind fun nn=>
   (Loop (P1 C p t70 t71 t78 t79 nn.toList (nn.toList.length:Int) cS cU fy fA oG uv dp cx cf cb) (0,bn,bh,bp,bq,db)).bind (un fun (aqG:Int)=>un fun (aiL:Bool)=>un fun (alu:Int)=>un fun (alv:Int)=>un fun (alw:Int)=>un fun (alx:Int) (aly:List V)=>
    kn (IntKind.wrap .i64 (t79+1),alu,alv,alw,alx,aly))
  else none
  else none
 else
  kr (t79,decide ((t79:Int)<t78),bn,bh,bp,bq,db)
noncomputable def P2 (C:ae) (p t70 t71 t78 cS cU fy fA:Int) (oG uv dp cx cf cb:List V):(Int × Int × Int × Int × Int × (List V))→Option ((Int × Int × Int × Int × Int × (List V)) ⊕ (Int × Bool × Int × Int × Int × Int × (List V))):=un fun t79=>un fun bn=>un fun bh=>un fun bp=>un fun bq db=>EL C p t70 t71 t78 cS cU fy fA oG uv dp cx cf cb t79 bn bh bp bq db (fun y=>some (.inl y)) (fun r=>some (.inr r))
noncomputable def EM (C:ae) (t70 cS cU fy fA:Int) (oG gb dp cx cf:List V) (t71 bn bh bp bq:Int) (cb:List V) {β:Type} (kn:(Int × Int × Int × Int × Int × (List V))→Option β) (kr:(Int × Bool × Int × Int × Int × Int × (List V))→Option β):Option β:=
 bif decide ((t71:Int)<t70) then
  bif (decide (0≤t71))&&(decide (t71<(oG.length:Int))) then
  (oG[(t71:Int).toNat]?).bind fun nr=>
  (C BI [.int .u64 nr.toInt]).bind fun kR=>
  (Loop (P2 C t71 t70 t71 (((V.nth kR 0).toList).length:Int) cS cU fy fA oG ((V.nth kR 0).toList) gb dp cx cf) (0,bn,bh,bp,bq,cb)).bind (un fun (WM:Int)=>un fun (aqH:Bool)=>un fun (alz:Int)=>un fun (alA:Int)=>un fun (alB:Int)=>un fun (alC:Int) (Im:List V)=>
   kn (IntKind.wrap .i64 (t71+1),alz,alA,alB,alC,Im))
  else none
 else
  kr (t71,decide ((t71:Int)<t70),bn,bh,bp,bq,cb)
noncomputable def P4 (C:ae) (t70 cS cU fy fA:Int) (oG gb dp cx cf:List V):(Int × Int × Int × Int × Int × (List V))→Option ((Int × Int × Int × Int × Int × (List V)) ⊕ (Int × Bool × Int × Int × Int × Int × (List V))):=un fun t71=>un fun bn=>un fun bh=>un fun bp=>un fun bq cb=>EM C t70 cS cU fy fA oG gb dp cx cf t71 bn bh bp bq cb (fun y=>some (.inl y)) (fun r=>some (.inr r))
noncomputable def ZX (C:ae):cH:=fun β n ds k=>
 bif Nat.beq n 193 then bE Mi [false,false,false,false,false,true,false,false,false,false,false,false,false,false,true,false,false,false,false,false] [[1,2,3,4,5,0,0,7,8,9,10,11,12,13,14,0,16,17,18,19,20]] (@EI C) ds k else
 bif Nat.beq n 145 then bE Mj [false,true,false,false,false,false,false,false,false,false,true,false,false,false,false,false] [[1,0,0,3,4,5,6,7,8,9,10,0,12,13,14,15,16]] (@EJ C) ds k else
 bif Nat.beq n 385 then bE Mk [false,false,false,false,false,false,false,true,false,false,false,false,true,true,true,true,false,false,false,false,false,false,true] [[1,2,3,4,5,6,7,0,0,9,10,11,12,0,0,0,0,17,18,19,20,21,22,0]] (@EK C) ds k else
 bif Nat.beq n 337 then bE Ml [false,false,false,false,true,false,false,false,false,true,true,true,true,false,false,false,false,false,false,true] [[1,2,3,4,0,0,6,7,8,9,0,0,0,0,14,15,16,17,18,19,0]] (@EL C) ds k else
 bif Nat.beq n 289 then bE Mm [false,true,false,false,false,false,true,true,true,true,false,false,false,false,false,true] [[1,0,0,3,4,5,6,0,0,0,0,11,12,13,14,15,0]] (@EM C) ds k else
 none
abbrev EN (C:ae) (b:cE):Prop:=cF Tryd.prog aD C (ZX C) 50 (cQ Tryd.prog (aD.bd 50)) (aD.sin 50).bf.length b
theorem alD (C:ae):EN C (.loop (av [1,1,1,1,1,1,0,1,0,0,1,1,0,0,1,1,0,0] qM)):=
 bH Mi [false,false,false,false,false,true,false,false,false,false,false,false,false,false,true,false,false,false,false,false] [[1,2,3,4,5,0,0,7,8,9,10,11,12,13,14,0,16,17,18,19,20]] (@EI C) (by kernel_rfl) (bc (bs:=[]) (by kernel_rfl) aC) (fun ds=>by kernel_rfl) (fun i x=>by kernel_rfl) (fun i x β k=>by kernel_rfl) (fun β ds k=>by kernel_rfl)
theorem alE (C:ae):EN C (.loop (av [1,1,1,1,1,1,0,1,0,0] qM)):=
 bH Mj [false,true,false,false,false,false,false,false,false,false,true,false,false,false,false,false] [[1,0,0,3,4,5,6,7,8,9,10,0,12,13,14,15,16]] (@EJ C) (by kernel_rfl) (bc (bs:=[.loop (av [1,1,1,1,1,1,0,1,0,0,1,1,0,0,1,1,0,0] qM)]) (by kernel_rfl) (bt (alD C) aC)) (fun ds=>by kernel_rfl) (fun i x=>by kernel_rfl) (fun i x β k=>by kernel_rfl) (fun β ds k=>by kernel_rfl)
theorem alF (C:ae):EN C (.loop (av [1,1,1,1,1,1,1,0,1,0,0,1,1,0,0,1,1,0,0,1,1,0,0,1,1,0,0] qM)):=
 bH Mk [false,false,false,false,false,false,false,true,false,false,false,false,true,true,true,true,false,false,false,false,false,false,true] [[1,2,3,4,5,6,7,0,0,9,10,11,12,0,0,0,0,17,18,19,20,21,22,0]] (@EK C) (by kernel_rfl) (bc (bs:=[]) (by kernel_rfl) aC) (fun ds=>by kernel_rfl) (fun i x=>by kernel_rfl) (fun i x β k=>by kernel_rfl) (fun β ds k=>by kernel_rfl)
theorem alG (C:ae):EN C (.loop (av [1,1,1,1,1,1,1,0,1,0,0,1,1,0,0,1,1,0,0] qM)):=
 bH Ml [false,false,false,false,true,false,false,false,false,true,true,true,true,false,false,false,false,false,false,true] [[1,2,3,4,0,0,6,7,8,9,0,0,0,0,14,15,16,17,18,19,0]] (@EL C) (by kernel_rfl) (bc (bs:=[.loop (av [1,1,1,1,1,1,1,0,1,0,0,1,1,0,0,1,1,0,0,1,1,0,0,1,1,0,0] qM)]) (by kernel_rfl) (bt (alF C) aC)) (fun ds=>by kernel_rfl) (fun i x=>by kernel_rfl) (fun i x β k=>by kernel_rfl) (fun β ds k=>by kernel_rfl)
theorem alH (C:ae):EN C (.loop (av [1,1,1,1,1,1,1,0,1,0,0] qM)):=
 bH Mm [false,true,false,false,false,false,true,true,true,true,false,false,false,false,false,true] [[1,0,0,3,4,5,6,0,0,0,0,11,12,13,14,15,0]] (@EM C) (by kernel_rfl) (bc (bs:=[.loop (av [1,1,1,1,1,1,1,0,1,0,0,1,1,0,0,1,1,0,0] qM)]) (by kernel_rfl) (bt (alG C) aC)) (fun ds=>by kernel_rfl) (fun i x=>by kernel_rfl) (fun i x β k=>by kernel_rfl) (fun β ds k=>by kernel_rfl)
noncomputable def P5 (C:ae) (aw az:Int) (ar ay:List V):Option (List V):=
 (C rX [.int .i64 aw,.int .i64 az,.list ag ar,.list ai ay]).bind fun r1=>
 bif (((V.nth (r1.drop 2) 0).toInt):Int) != 0 then
  some [.int .i64 0,.int .i64 0,.int .i64 ((V.nth (r1.drop 2) 0).toInt),.list ag ([]:List V),.list ai ([]:List V)]
 else
  (C vQ [.int .i64 aw,.int .i64 (((V.nth (r1.drop 3) 0).toList).length:Int)]).bind fun r2=>
  bif (V.nth r2 0).toBool then
  some [.int .i64 0,.int .i64 0,.int .i64 3,.list ag ([]:List V),.list ai ([]:List V)]
  else
  bif (decide (0≤(((V.nth (r1.drop 3) 0).toList).length:Int)))&&((decide ((((V.nth (r1.drop 3) 0).toList).length:Int)≤(((V.nth (r1.drop 3) 0).toList).length:Int)))&&(Nat.ble ((((((V.nth (r1.drop 3) 0).toList).length:Int):Int).toNat)*8) ct)) then
   (Loop (P0 C (((V.nth ((r1.drop 3).drop 1) 0).toList).length:Int) 0 0 ((V.nth r1 0).toInt) ((V.nth (r1.drop 1) 0).toInt) ((V.nth (r2.drop 1) 0).toInt) ((V.nth ((r2.drop 1).drop 1) 0).toInt) ((V.nth (((r2.drop 1).drop 1).drop 1) 0).toInt) ((V.nth ((((r2.drop 1).drop 1).drop 1).drop 1) 0).toInt) ((V.nth ((r1.drop 3).drop 1) 0).toList) ([]:List V) ([]:List V) ((V.nth (r1.drop 3) 0).toList) ((V.nth ((r2.drop 1).drop 4) 0).toList)) (0,List.replicate (((((V.nth (r1.drop 3) 0).toList).length:Int):Int).toNat) (V.int .u64 0))).bind (un fun (Oa:Int)=>un fun (yW:Bool) (alI:List V)=>
    (C G8 [.list b9 alI]).bind fun yX=>
    (Loop (P4 C (((V.nth yX 0).toList).length:Int) 0 0 ((V.nth r1 0).toInt) ((V.nth (r1.drop 1) 0).toInt) ((V.nth yX 0).toList) ([]:List V) ([]:List V) ((V.nth (r1.drop 3) 0).toList) ((V.nth ((r1.drop 3).drop 1) 0).toList)) (0,(V.nth (r2.drop 1) 0).toInt,(V.nth ((r2.drop 1).drop 1) 0).toInt,(V.nth (((r2.drop 1).drop 1).drop 1) 0).toInt,(V.nth ((((r2.drop 1).drop 1).drop 1).drop 1) 0).toInt,(V.nth ((r2.drop 1).drop 4) 0).toList)).bind (un fun (aqI:Int)=>un fun (aqJ:Bool)=>un fun (alJ:Int)=>un fun (alK:Int)=>un fun (alL:Int)=>un fun (alM:Int) (alN:List V)=>
     (C yg [.int .i64 ((V.nth (r1.drop 1) 0).toInt),.int .i64 alJ,.int .i64 alK,.int .u64 alL,.int .u64 alM,.list aF alN]).bind fun wO=>
     (C yi [.int .i64 ((V.nth r1 0).toInt),.int .i64 ((V.nth (r1.drop 1) 0).toInt),.list ag ((V.nth (r1.drop 3) 0).toList),.list ai ((V.nth ((r1.drop 3).drop 1) 0).toList)]).bind fun P6=>
     (C yh [.list ag ((V.nth P6 0).toList),.int .i64 0,.int .i64 ((V.nth wO 0).toInt),.int .i64 ((V.nth (wO.drop 1) 0).toInt),.int .u64 ((V.nth ((wO.drop 1).drop 1) 0).toInt),.int .u64 ((V.nth (((wO.drop 1).drop 1).drop 1) 0).toInt),.list aF ((V.nth (wO.drop 4) 0).toList)]).bind fun sM=>
     (C tP [.int .i64 ((V.nth sM 0).toInt),.int .i64 ((V.nth (sM.drop 1) 0).toInt),.int .u64 ((V.nth ((sM.drop 1).drop 1) 0).toInt),.int .u64 ((V.nth (((sM.drop 1).drop 1).drop 1) 0).toInt),.list aF ((V.nth (sM.drop 4) 0).toList)]).bind fun qG=>
     some [.int .i64 ((V.nth qG 0).toInt),.int .i64 ((V.nth (qG.drop 1) 0).toInt),.int .i64 ((V.nth (qG.drop 2) 0).toInt),.list ag ((V.nth ((qG.drop 3).drop 5) 0).toList),.list ai ((V.nth (((qG.drop 3).drop 5).drop 1) 0).toList)]))
  else none
theorem ZY {aw az:Int} {ar ay:List V} {r:Option (List V)} (h:P5 CC aw az ar ay=r):CC vN [.int .i64 aw,.int .i64 az,.list ag ar,.list ai ay]=r:=
 bC (key:=50) (L:=ZX CC) (bs:=[.loop (av [1,1,1,1,1,1,0,1,0,0] qM),.loop (av [1,1,1,1,1,1,1,0,1,0,0] qM)]) (by kernel_rfl) (bt (alE CC) (bt (alH CC) aC)) (bw (by kernel_rfl) h)
def oH (m:Da) (p:Nat):Nat→Nat
 | 0=>0
 | x+1=>oH m p x|||2^m.nx p x
def ko (m:Da):List Nat:=tab m.n fun p=>oH m p m.L
theorem ZZ {m:Da} {p j:Nat}: ∀{x:Nat},(oH m p x).testBit j=true↔∃y,y<x∧j=m.nx p y
 | 0=>by simp[oH]
 | x+1=>by
  unfold oH
  rw[pM,oK,ZZ,Ez]
  constructor
  ·rintro (⟨y,h1,h2⟩|h)
   ·exact ⟨y,by omega,h2⟩
   ·exact ⟨x,by omega,h⟩
  ·rintro ⟨y,h1,h2⟩
   by_cases h:y=x
   ·exact .inr (h▸h2)
   ·exact .inl ⟨y,by omega,h2⟩
def wP (m:Da) (p q:Nat):List Ed:=tab m.L fun x=>fD p x (m.nx q x)
def gg (m:Da) (p:Nat):List Nat:=mem ((pK (ko m)).getD p 0)
def qO (m:Da) (p:Nat):List Ed:=(gg m p).flatMap (wP m p)
def zM (m:Da):List Ed:=fm m.n (qO m)
section
variable {m:Da} (hm:m.Ok)
include hm
theorem P7 {p:Nat} (hp:p<m.n): ∀x,x≤m.L→oH m p x<2^m.n
 | 0,_=>z8 _
 | x+1,hx=>s9 (P7 hp x (by omega)) (kZ (by omega) (hm.dH hp (by omega)))
variable (hs:m.n≤64)
include hs
theorem Jx:iM (ko m) where
 len:=by unfold ko;rw[eo];exact hs
 lt:=fun a ha=>by
  unfold ko at*
  obtain ⟨p,hp,rfl⟩:=qy.1 ha
  rw[eo]
  exact P7 hm hp _ (aI _)
theorem alO:(pK (ko m)).length=m.n:=by
 have:=(PY (Jx hm hs)).len
 rw[this]
 unfold ko
 rw[eo]
omit hm hs in
theorem Z0 {p j:Nat} (hp:p<m.n):Bt (ko m) p j↔∃y,y<m.L∧j=m.nx p y:=by
 unfold Bt ko
 rw[sw hp,ZZ]
theorem P8 {p q:Nat} (hp:p<m.n):q∈gg m p↔∃y,WL m.L y∧q=m.run p y:=by
 have hc:=PY (Jx hm hs)
 have hl:(ko m).length=m.n:=by unfold ko;rw[eo]
 unfold gg
 rw[mem_iff (hc.ok.get p)]
 constructor
 ·intro h
  refine hc.sound (fun i=> ∃y,WL m.L y∧i=m.run p y) (fun i j hi hT hb=> ?_) p q (by omega) ⟨[],WL.nil,rfl⟩ h
  obtain ⟨y,hy,rfl⟩:=hT
  obtain ⟨x,hx,rfl⟩:=(Z0 (by omega)).1 hb
  exact ⟨y++[x],WL.app.2 ⟨hy,WL.nil.cons hx⟩,by rw[Da.yB];rfl⟩
 ·rintro ⟨y,hy,rfl⟩
  have key: ∀(y:List Nat) (p:Nat),p<m.n→WL m.L y→Bt (pK (ko m)) p (m.run p y):=by
   intro y
   induction y with
   | nil=>intro p hp _;exact hc.refl p (by omega)
   | cons x y ih=>
    intro p hp hy
    have hn:=hm.dH hp hy.head
    exact hc.trans p (m.nx p x) _ (by omega) (by omega) (by omega) (hc.base _ _ (by omega) ((Z0 hp).2 ⟨x,hy.head,rfl⟩)) (ih _ hn hy.tail)
  exact key y p hp hy
theorem Z1 {e:Ed}:e∈zM m↔∃p y x,p<m.n∧WL m.L y∧x<m.L∧e=fD p x (m.nx (m.run p y) x):=by
 unfold zM
 rw[PA]
 constructor
 ·rintro ⟨p,hp,he⟩
  obtain ⟨q,hq,he⟩:=List.mem_flatMap.1 he
  obtain ⟨x,hx,rfl⟩:=qy.1 he
  obtain ⟨y,hy,rfl⟩:=(P8 hm hs hp).1 hq
  exact ⟨p,y,x,hp,hy,hx,rfl⟩
 ·rintro ⟨p,y,x,hp,hy,hx,rfl⟩
  exact ⟨p,hp,List.mem_flatMap.2 ⟨_,(P8 hm hs hp).2 ⟨y,hy,rfl⟩,qy.2 ⟨x,hx,rfl⟩⟩⟩
omit hs in
theorem P9 {p:Nat}: ∀l:List Nat,(l.flatMap (wP m p)).length≤l.length*6
 | []=>by simp
 | q::l=>by
  have ih:=P9 (p:=p) l
  have h6:=hm.l6
  rw[List.flatMap_cons,dD,List.length_cons]
  have:(wP m p q).length=m.L:=eo
  omega
omit hs in
theorem Z2 {p:Nat}:(qO m p).length≤384:=by
 have h1:=P9 hm (p:=p) (gg m p)
 have h2:(gg m p).length≤64:=HR _
 unfold qO
 omega
theorem Z3:uo m.L m.n (2^m.st) (fu 0 m.eY 0 m.n) (zM m) where
 l1:=hm.l1
 l6:=hm.l6
 qw:=hs
 st:=kZ (by omega) hm.s
 fin:=Et (z8 _) (by omega)
 E:=fun e he=>by
  obtain ⟨p,y,x,hp,hy,hx,rfl⟩:=(Z1 hm hs).1 he
  exact PN hp hx (hm.dH (hm.na y hp hy) hx)
 len:=by
  have h1:(zM m).length≤m.n*384:=Es fun p _=>Z2 hm
  omega
noncomputable def EO (m:Da):Nf:=cW m.L m.n (2^m.st) (fu 0 m.eY 0 m.n) (zM m)
end
section
variable {a:Da} (h:a.Ok)
include h
omit h in
theorem alP {m:Da} (hm:m.Ok) (hL:m.L=a.L) (F3:CC rX (dt a)=some (gd m 0)) (hs:m.n≤64):CC vN (dt a)=some (gd (gf (EO m) a.L m.n) (oD (EO m) a.L m.n)):=by
 have h6:=hm.l6
 have b6:=hm.s
 have hr:=Pg (Z3 hm hs)
 have aqK:(2:Nat)^m.n≤2^64:=pN (by omega) hs
 refine ZY ?_
 unfold P5
 refine bs F3 (bF rfl ?_)
 simp only[gd,V.cq,mE,jQ,V.toInt_int,V.oe,Da.lE]
 refine bs (PE hs) (bF rfl ?_)
 refine bT (ng (by omega) (by omega)) ?_
 rw[Int.toNat_natCast,pt,show m.cB.length=m.n from eo]
 refine bs (qJ m.n (fun i=>((i:Int),tab m.n fun j=>uV (if j<i then oH m j m.L else 0))) ((m.n:Int),false,U1 (ko m)) rfl (fun p hp=> ?_) ?_) ?_
 ·simp only[P0,EJ,un]
  refine bT (dA hp) ?_
  refine (dN (i:=p) hp).trans ?_
  rw[show (kf m.L (m.nx p)).toList=tab m.L fun x=>nV (m.nx p x) from rfl,eo]
  refine bs (qJ m.L (fun i=>((i:Int),tab m.n fun j=>uV (if j=p then oH m p i else if j<p then oH m j m.L else 0))) ((m.L:Int),false,tab m.n fun j=>uV (if j<p+1 then oH m j m.L else 0)) ?_ (fun x hx=> ?_) ?_) ?_
  ·refine congrArg (fun z=>((0:Int),z)) (ep fun j hj=>congrArg uV ?_)
   by_cases c:j=p
   ·rw[af c,ah (by omega)];rfl
   ·rw[ah c]
  ·have hl:=P7 hm hp x (by omega)
   have hq:=hm.dH hp hx
   simp only[PZ,EI,un]
   refine bT (dA hx) ?_
   refine bs (sx hx) ?_
   refine (dN (i:=p) hp).trans ?_
   rw[show (nV (m.nx p x)).toInt=((m.nx p x:Nat):Int) from rfl]
   refine bT (bO (by omega)) ?_
   refine (dN (i:=p) hp).trans ?_
   rw[af rfl,show (uV (oH m p x)).toInt=((oH m p x:Nat):Int) from rfl,Int.toNat_natCast,Int.toNat_natCast,yu (by omega),u64_or (by omega) (kZ (by omega) (by omega)),da (by omega),pr]
   refine congrArg (fun z=>some (Sum.inl (((x+1:Nat):Int),z))) (ep fun j hj=> ?_)
   by_cases c:j=p
   ·rw[af c,af c];rfl
   ·rw[ah c,ah c,ah c]
  ·simp only[PZ,EI,un]
   refine bF (bJ (aI _)) ?_
   rw[bJ (aI _)]
   refine congrArg (fun z=>some (Sum.inr ((m.L:Int),false,z))) (ep fun j hj=>congrArg uV ?_)
   by_cases c:j=p
   ·rw[af c,af (by omega),c]
   ·rw[ah c]
    by_cases c2:j<p
    ·rw[af c2,af (by omega)]
    ·rw[ah c2,ah (by omega)]
  ·simp only[un]
   rw[da (by omega)]
 ·simp only[P0,EJ,un]
  refine bF (bJ (aI _)) ?_
  rw[bJ (aI _)]
  refine congrArg (fun z=>some (Sum.inr ((m.n:Int),false,z))) ?_
  unfold U1 ko
  rw[We]
  exact ep fun j hj=>by rw[af hj];rfl
 ·simp only[un]
  have hc:=PY (Jx hm hs)
  have fa:=alO hm hs
  refine bs (alr (Jx hm hs)) ?_
  rw[show (V.nth [V.list b9 (U1 (pK (ko m)))] 0).toList=U1 (pK (ko m)) from rfl,jm,fa]
  have l0: ∀n,(fm n (qO m)).length≤n*384:=fun n=>Es fun p _=>Z2 hm
  refine bs (qJ m.n (fun i=>((i:Int),(a.L:Int),(m.n:Int),((0:Nat):Int),((0:Nat):Int),(fm i (qO m)).map Ed.enc)) ((m.n:Int),false,(a.L:Int),(m.n:Int),((0:Nat):Int),((0:Nat):Int),(zM m).map Ed.enc) rfl (fun p hp=> ?_) ?_) ?_
  ·have l1:=l0 p
   have l2:(gg m p).length≤64:=HR _
   simp only[P4,EM,un]
   refine bT (dA hp) ?_
   refine (CD (i:=p) (v:=uV ((pK (ko m)).getD p 0)) (v5 (by rw[nF,bI (by omega)];rfl))).trans ?_
   refine bs (Vw (hc.ok.get p)) ?_
   rw[show (V.nth [V.list bD (jK (mem ((pK (ko m)).getD p 0)))] 0).toList=jK (gg m p) from rfl,show (jK (gg m p)).length=(gg m p).length from cM _]
   refine bs (qJ (gg m p).length (fun i=>((i:Int),(a.L:Int),(m.n:Int),((0:Nat):Int),((0:Nat):Int),(fm p (qO m)++((gg m p).take i).flatMap (wP m p)).map Ed.enc)) (((gg m p).length:Int),false,(a.L:Int),(m.n:Int),((0:Nat):Int),((0:Nat):Int),(fm p (qO m)++qO m p).map Ed.enc) (by rw[List.take_zero,List.flatMap_nil,iS];rfl) (fun t ht=> ?_) ?_) ?_
   ·have l3:=P9 hm (p:=p) ((gg m p).take t)
    have l4:((gg m p).take t).length≤t:=E3 _ _
    obtain ⟨y,hy,hq⟩:=(P8 hm hs hp).1 (eU ht)
    have hqn:(gg m p)[t]<m.n:=by rw[hq];exact hm.na y hp hy
    simp only[P2,EL,un]
    refine bT (dA ht) ?_
    refine (CD (i:=t) (v:=nV (gg m p)[t]) (by unfold jK;rw[eM,bI ht];rfl)).trans ?_
    refine (dN (i:=(gg m p)[t]) hqn).trans ?_
    rw[show (kf m.L (m.nx (gg m p)[t])).toList=tab m.L fun x=>nV (m.nx (gg m p)[t] x) from rfl,eo]
    refine bs (qJ m.L (fun i=>((i:Int),(a.L:Int),(m.n:Int),((0:Nat):Int),((0:Nat):Int),((fm p (qO m)++((gg m p).take t).flatMap (wP m p))++tab i fun x=>fD p x (m.nx (gg m p)[t] x)).map Ed.enc)) ((m.L:Int),false,(a.L:Int),(m.n:Int),((0:Nat):Int),((0:Nat):Int),((fm p (qO m)++((gg m p).take t).flatMap (wP m p))++wP m p (gg m p)[t]).map Ed.enc) (by rw[NZ,iS];rfl) (fun x hx=> ?_) ?_) ?_
    ·simp only[P1,EK,un]
     refine bT (dA hx) ?_
     refine bs (sx hx) ?_
     rw[show (nV (m.nx (gg m p)[t] x)).toInt=((m.nx (gg m p)[t] x:Nat):Int) from rfl]
     refine bs (PC (by rw[dD,dD,eo];omega)) ?_
     rw[da (by omega),tZ,←cY]
     rfl
    ·simp only[P1,EK,un]
     refine bF (bJ (aI _)) ?_
     rw[bJ (aI _)]
     rfl
    ·simp only[un]
     rw[da (by omega),E1 ht,List.flatMap_append,←cY]
     simp
   ·simp only[P2,EL,un]
    refine bF (bJ (aI _)) ?_
    rw[bJ (aI _),sX]
    rfl
   ·simp only[un]
    rw[da (by omega),Jo]
  ·simp only[P4,EM,un]
   refine bF (bJ (aI _)) ?_
   rw[bJ (aI _)]
   rfl
  ·simp only[un]
   refine bs (PD (q:=m.st) (by omega) (by omega)) ?_
   refine bs (Ps hm) ?_
   refine bs (PI (n:=m.n) (f:=m.eY) (off:=0) (by omega) (by omega)) ?_
   rw[Nat.zero_or]
   rw[hL] at hr
   refine bs hr ?_
   show _=some (gd (gf (cW m.L _ _ _ _) a.L _) (oD (cW m.L _ _ _ _) a.L _))
   rw[hL]
   rfl
theorem alQ (hs:(minD a).n≤64):CC vN (dt a)=some (gd (gf (EO (minD a)) a.L (minD a).n) (oD (EO (minD a)) a.L (minD a).n)):=alP (kW h) (mC h) (wM h) hs
theorem alR (hs:64<(minD a).n):CC vN (dt a)=some (gd zD 3):=by
 refine ZY ?_
 unfold P5
 refine bs (wM h) (bF rfl ?_)
 have e0:(V.nth ((gd (minD a) 0).drop 3) 0).toList=(minD a).c8:=rfl
 rw[e0,Da.lE]
 refine bs (PF hs) (bT rfl ?_)
 rfl
theorem alS:oF (CC vN (dt a)) a.L (minD a).n fun w=> ∃v,WL a.L v∧List.Sublist w v∧a.acc a.st v=true:=by
 have hm:=kW h
 have hL:=mC h
 by_cases hs:(minD a).n≤64
 ·have hr:=Z3 hm hs
  have he:=alQ h hs
  unfold EO at he
  rw[←hL] at he⊢
  refine oF.of hr he fun w hw=> ?_
  rw[akR hm (fun e=>Z1 hm hs) hw]
  constructor
  ·rintro ⟨v,h1,h2,h3⟩;exact ⟨v,h1,h2,by rw[←qK h (hL▸h1)];exact h3⟩
  ·rintro ⟨v,h1,h2,h3⟩;exact ⟨v,h1,h2,by rw[qK h (hL▸h1)];exact h3⟩
 ·exact .inr ⟨alR h (by omega),by omega⟩
end
noncomputable def Z4 (C:ae) (s:List UInt8) (n:Int):Option (List V):=
 bif (decide (0≤(if n<(s.length:Int) then n else (s.length:Int))))&&(decide ((if n<(s.length:Int) then n else (s.length:Int))≤(s.length:Int))) then
  some [.str ((s.drop 0).take (((if n<(s.length:Int) then n else (s.length:Int):Int).toNat)-0))]
 else none
theorem alT {s:List UInt8} {n:Int} {r:Option (List V)} (h:Z4 CC s n=r):CC ye [.str s,.int .i64 n]=r:=
 bC (key:=42) (L:=dg) (bs:=[]) (by kernel_rfl) aC (bw (by kernel_rfl) h)
theorem EP {w:List UInt8} {L:Int}:dj w L↔1≤L∧L≤6∧w.length≤2048∧∀b∈w,0≤(b.toNat:Int)-97∧(b.toNat:Int)-97<L:=by
 unfold dj
 refine and_congr Iff.rfl (and_congr Iff.rfl (and_congr Iff.rfl ⟨fun h b hb=> ?_,fun h i hi=> ?_⟩))
 ·obtain ⟨i,hi,rfl⟩:=List.mem_iff_getElem.1 hb
  have:=h i hi
  unfold eF at this
  rwa [fI hi] at this
 ·unfold eF
  rw[fI hi]
  exact h _ (eU hi)
theorem dj.part {w v:List UInt8} {L:Int} (h:dj w L) (hl:v.length≤w.length) (hm: ∀b∈v,b∈w):dj v L:=by
 obtain ⟨h1,h2,h3,h4⟩:=EP.1 h
 exact EP.2 ⟨h1,h2,by omega,fun b hb=>h4 b (hm b hb)⟩
theorem dj.left {u v:List UInt8} {L:Int} (h:dj (u++v) L):dj u L:=h.part (by simp) fun b hb=>List.mem_append_left _ hb
theorem dj.right {u v:List UInt8} {L:Int} (h:dj (u++v) L):dj v L:=h.part (by simp) fun b hb=>List.mem_append_right _ hb
theorem dj.app {u v:List UInt8} {L:Int} (h1:dj u L) (h2:dj v L) (hl:u.length+v.length≤2048):dj (u++v) L:=by
 obtain ⟨a1,a2,_,a4⟩:=EP.1 h1
 obtain ⟨_,_,_,b4⟩:=EP.1 h2
 refine EP.2 ⟨a1,a2,by rw[dD];exact hl,fun b hb=> ?_⟩
 rcases er.1 hb with hb|hb
 ·exact a4 b hb
 ·exact b4 b hb
theorem Qa (s:List UInt8) (n:Nat):CC ye [.str s,.int .i64 (n:Int)]=some [.str (s.take n)]:=by
 refine alT ?_
 unfold Z4
 by_cases h:(n:Int)<(s.length:Int)
 ·rw[af h]
  refine bT (gZ.2 ⟨bO (by omega),bO (by omega)⟩) ?_
  simp
 ·rw[ah h]
  refine bT (gZ.2 ⟨bO (by omega),bO (by omega)⟩) ?_
  rw[Int.toNat_natCast,jQ,Nat.sub_zero,sX,uH (by omega)]
section
variable {a b:Da} (ha:a.Ok) (hb:b.Ok) (hL:a.L=b.L)
include ha hb hL
end
def eT:Da:=⟨2,0,[false,true],[[1,0],[0,1]]⟩
def nz:Da:=⟨2,0,[false,true],[[1,0],[1,1]]⟩
theorem ER:eT.Ok:=⟨by decide,by decide,by decide,by decide,by decide,by decide⟩
theorem Jy:nz.Ok:=⟨by decide,by decide,by decide,by decide,by decide,by decide⟩
theorem alU:eT.Canon eT.L (eT.acc eT.st) where
 ok:=ER
 hL:=rfl
 st:=rfl
 num:=⟨by decide,by decide,by decide⟩
 red:=fun p q hp hq h=>by
  have h0:=h [] WL.nil
  have hp':p<2:=hp
  have cj:q<2:=hq
  have: ∀p,p<2→∀q,q<2→eT.acc p []=eT.acc q []→p=q:=by decide
  exact this p hp' q cj h0
 lB:=fun _ _=>rfl
theorem alV:nz.Canon nz.L (nz.acc nz.st) where
 ok:=Jy
 hL:=rfl
 st:=rfl
 num:=⟨by decide,by decide,by decide⟩
 red:=fun p q hp hq h=>by
  have h0:=h [] WL.nil
  have hp':p<2:=hp
  have cj:q<2:=hq
  have: ∀p,p<2→∀q,q<2→nz.acc p []=nz.acc q []→p=q:=by decide
  exact this p hp' q cj h0
 lB:=fun _ _=>rfl
theorem Z5:minD eT=eT:=(Dr ER alU).symm
theorem alW:jq (sR eT) 2 2=nz:=by kernel_rfl
theorem Z6: ¬iO (sR eT) 2 2:=by
 have:=yU (pF (Jq ER (by decide))) (2^2)
 exact fun h=>absurd (kq h this) (by decide)
theorem alX:gf (sR eT) 2 2=nz:=by
 unfold gf
 rw[ah Z6,alW]
 exact (Dr Jy alV).symm
noncomputable def Z7 (C:ae):Option (List V):=
 (C G4 []).bind fun r1=>
 (C vO [.int .i64 ((V.nth r1 0).toInt),.int .i64 ((V.nth (r1.drop 1) 0).toInt),.list ag ((V.nth (r1.drop 2) 0).toList),.list ai ((V.nth ((r1.drop 2).drop 1) 0).toList)]).bind fun r2=>
 bif (((V.nth (r2.drop 2) 0).toInt):Int)==0 then
  bif ((((V.nth (r2.drop 3) 0).toList).length:Int):Int)==2 then
  (C ax [.int .i64 ((V.nth r2 0).toInt),.int .i64 ((V.nth (r2.drop 1) 0).toInt),.list ag ((V.nth (r2.drop 3) 0).toList),.list ai ((V.nth ((r2.drop 3).drop 1) 0).toList),.str [98,97,97]]).bind fun r3=>
  bif (V.nth r3 0).toBool then
   (C ax [.int .i64 ((V.nth r2 0).toInt),.int .i64 ((V.nth (r2.drop 1) 0).toInt),.list ag ((V.nth (r2.drop 3) 0).toList),.list ai ((V.nth ((r2.drop 3).drop 1) 0).toList),.str [98,98]]).bind fun r4=>
   some [.bool (!((V.nth r4 0).toBool))]
  else
   some [.bool false]
  else
  some [.bool false]
 else
  some [.bool false]
theorem alY {r:Option (List V)} (h:Z7 CC=r):CC bU []=r:=
 bC (key:=19) (L:=dg) (bs:=[]) (by kernel_rfl) aC (bw (by kernel_rfl) h)
noncomputable def alZ (C:ae):Option (List V):=
 some [.int .i64 2,.int .i64 0,.list ag ([.bool false,.bool true]:List V),.list ai ([.list bD ([.int .i64 1,.int .i64 0]:List V),.list bD ([.int .i64 0,.int .i64 1]:List V)]:List V)]
theorem al0 {r:Option (List V)} (h:alZ CC=r):CC G4 []=r:=
 bC (key:=59) (L:=dg) (bs:=[]) (by kernel_rfl) aC (bw (by kernel_rfl) h)
def Z8:List Ed:=[⟨0,0,1⟩,⟨0,1,0⟩,⟨1,0,0⟩,⟨1,1,1⟩,⟨0,0,0⟩,⟨0,1,0⟩,⟨1,0,1⟩,⟨1,1,1⟩]
def Qb:List Ed:=[⟨0,0,0⟩,⟨0,0,1⟩,⟨0,1,0⟩,⟨0,1,0⟩,⟨1,0,0⟩,⟨1,0,1⟩,⟨1,1,1⟩,⟨1,1,1⟩]
def Jz:List Ed:=[⟨0,0,0⟩,⟨0,0,1⟩,⟨0,1,0⟩,⟨1,0,0⟩,⟨1,0,1⟩,⟨1,1,1⟩]
theorem al1:fM eT 0++jt 2 2=Z8:=by decide
theorem al2:CC BJ [.list aF (Z8.map Ed.enc)]=some [.list aF (Qb.map Ed.enc)]:=adg (N:=40) (n:=40) (by kernel_rfl)
theorem al3:sR eT=⟨2,2,1,2,Jz⟩:=by kernel_rfl
theorem al4:CC tP (aN 2 2 (2^eT.st) (fu 0 eT.fin 0 2) (fM eT 0++jt 2 2))=some (Pf nz 0 ⟨2,2,1,2,Jz⟩):=by
 obtain ⟨b,e2⟩:=X2 (l:=Qb) (by decide)
 have hc:iQ Qb=Jz:=by decide
 rw[hc] at e2
 have e3:=YY (pF (Jq ER (by decide)))
 rw[show cW eT.L eT.n (2^eT.st) (fu 0 eT.fin 0 eT.n) (fM eT 0++jt eT.L eT.n)=sR eT from rfl,show eT.L=2 from rfl,show eT.n=2 from rfl,alX,show oD (sR eT) 2 2=0 from ah Z6,al3] at e3
 rw[al1]
 refine YX ?_
 unfold Pe
 refine bs al2 ?_
 refine bs e2 ?_
 cases b
 ·refine bF rfl ?_
  refine bs e3 ?_
  rfl
 ·refine bT rfl ?_
  refine bs e3 ?_
  rfl
theorem Qc:CC bU []=some [.bool true]:=by
 have h1:CC G4 []=some (dt eT):=al0 rfl
 have h2:=Zw ER (X:=nz) (e:=0) (n:=⟨2,2,1,2,Jz⟩) (by rw[Z5];decide) (by rw[Z5];exact al4)
 refine alY ?_
 unfold Z7
 refine bs h1 ?_
 refine bs h2 ?_
 refine bT rfl (bT (by decide) ?_)
 refine bs (CJ Jy (w:=[98,97,97]) (by decide)) ?_
 refine bT (by decide) ?_
 refine bs (CJ Jy (w:=[98,98]) (by decide)) ?_
 rw[show nz.acc nz.st (lets [98,98])=false by decide]
 rfl
noncomputable def JA (C:ae) (aw az:Int) (ar ay:List V) (u v w:List UInt8):Option (List V):=
 (C ye [.str u,.int .i64 4]).bind fun r1=>
 (C ye [.str v,.int .i64 4]).bind fun r2=>
 (C ye [.str w,.int .i64 4]).bind fun r3=>
 (C G1 [.int .i64 aw,.int .i64 az,.list ag ar,.list ai ay,.int .i64 6]).bind fun r4=>
 bif !((V.nth r4 0).toBool) then
  (C bU []).bind fun r5=>
  some [.bool ((V.nth r5 0).toBool)]
 else
  bif Nat.ble (((V.nth r1 0).toStr).length+((V.nth r2 0).toStr).length) aB then
  bif Nat.ble ((((V.nth r1 0).toStr)++((V.nth r2 0).toStr)).length+((V.nth r3 0).toStr).length) aB then
   (C BC [.str ((((V.nth r1 0).toStr)++((V.nth r2 0).toStr))++((V.nth r3 0).toStr)),.int .i64 aw]).bind fun r6=>
   bif !((V.nth r6 0).toBool) then
   (C bU []).bind fun r7=>
   some [.bool ((V.nth r7 0).toBool)]
   else
   (C GZ [.int .i64 aw,.int .i64 az,.list ag ar,.list ai ay]).bind fun r8=>
   (C BD [.int .i64 aw,.int .i64 az,.list ag ar,.list ai ay]).bind fun r9=>
   (C BE [.int .i64 aw,.int .i64 az,.list ag ar,.list ai ay]).bind fun bW=>
   (C vN [.int .i64 aw,.int .i64 az,.list ag ar,.list ai ay]).bind fun aO=>
   (C vO [.int .i64 aw,.int .i64 az,.list ag ar,.list ai ay]).bind fun ao=>
   bif (((V.nth (r8.drop 2) 0).toInt):Int) != 0 then
    some [.bool false]
   else
    bif (((V.nth (r9.drop 2) 0).toInt):Int) != 0 then
    some [.bool false]
    else
    bif (((V.nth (bW.drop 2) 0).toInt):Int) != 0 then
     some [.bool false]
    else
     bif (((V.nth (aO.drop 2) 0).toInt):Int) != 0 then
     some [.bool false]
     else
     bif (((V.nth (ao.drop 2) 0).toInt):Int) != 0 then
      some [.bool false]
     else
      bif Nat.ble (((V.nth r1 0).toStr).length+((V.nth r2 0).toStr).length) aB then
      bif Nat.ble ((((V.nth r1 0).toStr)++((V.nth r2 0).toStr)).length+((V.nth r3 0).toStr).length) aB then
       (C ax [.int .i64 aw,.int .i64 az,.list ag ar,.list ai ay,.str ((((V.nth r1 0).toStr)++((V.nth r2 0).toStr))++((V.nth r3 0).toStr))]).bind fun yX=>
       bif (V.nth yX 0).toBool then
       (C ax [.int .i64 ((V.nth r8 0).toInt),.int .i64 ((V.nth (r8.drop 1) 0).toInt),.list ag ((V.nth (r8.drop 3) 0).toList),.list ai ((V.nth ((r8.drop 3).drop 1) 0).toList),.str ((V.nth r1 0).toStr)]).bind fun r14=>
       bif !((V.nth r14 0).toBool) then
        some [.bool false]
       else
        (C ax [.int .i64 ((V.nth r9 0).toInt),.int .i64 ((V.nth (r9.drop 1) 0).toInt),.list ag ((V.nth (r9.drop 3) 0).toList),.list ai ((V.nth ((r9.drop 3).drop 1) 0).toList),.str ((V.nth r3 0).toStr)]).bind fun kR=>
        bif !((V.nth kR 0).toBool) then
        some [.bool false]
        else
        (C ax [.int .i64 ((V.nth bW 0).toInt),.int .i64 ((V.nth (bW.drop 1) 0).toInt),.list ag ((V.nth (bW.drop 3) 0).toList),.list ai ((V.nth ((bW.drop 3).drop 1) 0).toList),.str ((V.nth r2 0).toStr)]).bind fun mi=>
        bif !((V.nth mi 0).toBool) then
         some [.bool false]
        else
         bif Nat.ble (((V.nth r1 0).toStr).length+((V.nth r3 0).toStr).length) aB then
         (C ax [.int .i64 ((V.nth aO 0).toInt),.int .i64 ((V.nth (aO.drop 1) 0).toInt),.list ag ((V.nth (aO.drop 3) 0).toList),.list ai ((V.nth ((aO.drop 3).drop 1) 0).toList),.str (((V.nth r1 0).toStr)++((V.nth r3 0).toStr))]).bind fun eJ=>
         bif !((V.nth eJ 0).toBool) then
          some [.bool false]
         else
          bif Nat.ble (((V.nth r1 0).toStr).length+((V.nth r3 0).toStr).length) aB then
          (C ax [.int .i64 aw,.int .i64 az,.list ag ar,.list ai ay,.str (((V.nth r1 0).toStr)++((V.nth r3 0).toStr))]).bind fun uj=>
          bif (V.nth uj 0).toBool then
           bif Nat.ble (((V.nth r1 0).toStr).length+((V.nth r2 0).toStr).length) aB then
           bif Nat.ble ((((V.nth r1 0).toStr)++((V.nth r2 0).toStr)).length+((V.nth r3 0).toStr).length) aB then
            (C ax [.int .i64 ((V.nth ao 0).toInt),.int .i64 ((V.nth (ao.drop 1) 0).toInt),.list ag ((V.nth (ao.drop 3) 0).toList),.list ai ((V.nth ((ao.drop 3).drop 1) 0).toList),.str ((((V.nth r1 0).toStr)++((V.nth r2 0).toStr))++((V.nth r3 0).toStr))]).bind fun eS=>
            bif !((V.nth eS 0).toBool) then
            some [.bool false]
            else
            bif Nat.ble (((V.nth r1 0).toStr).length+((V.nth r2 0).toStr).length) aB then
             (C ax [.int .i64 ((V.nth r8 0).toInt),.int .i64 ((V.nth (r8.drop 1) 0).toInt),.list ag ((V.nth (r8.drop 3) 0).toList),.list ai ((V.nth ((r8.drop 3).drop 1) 0).toList),.str (((V.nth r1 0).toStr)++((V.nth r2 0).toStr))]).bind fun gX=>
             bif (V.nth gX 0).toBool then
             (C ax [.int .i64 ((V.nth r8 0).toInt),.int .i64 ((V.nth (r8.drop 1) 0).toInt),.list ag ((V.nth (r8.drop 3) 0).toList),.list ai ((V.nth ((r8.drop 3).drop 1) 0).toList),.str ((V.nth r1 0).toStr)]).bind fun pD=>
             bif !((V.nth pD 0).toBool) then
              some [.bool false]
             else
              bif Nat.ble (((V.nth r1 0).toStr).length+((V.nth r2 0).toStr).length) aB then
              bif Nat.ble ((((V.nth r1 0).toStr)++((V.nth r2 0).toStr)).length+((V.nth r3 0).toStr).length) aB then
               (C ax [.int .i64 ((V.nth bW 0).toInt),.int .i64 ((V.nth (bW.drop 1) 0).toInt),.list ag ((V.nth (bW.drop 3) 0).toList),.list ai ((V.nth ((bW.drop 3).drop 1) 0).toList),.str ((((V.nth r1 0).toStr)++((V.nth r2 0).toStr))++((V.nth r3 0).toStr))]).bind fun jN=>
               bif (V.nth jN 0).toBool then
               (C ax [.int .i64 ((V.nth bW 0).toInt),.int .i64 ((V.nth (bW.drop 1) 0).toInt),.list ag ((V.nth (bW.drop 3) 0).toList),.list ai ((V.nth ((bW.drop 3).drop 1) 0).toList),.str ((V.nth r2 0).toStr)]).bind fun OU=>
               bif !((V.nth OU 0).toBool) then
                some [.bool false]
               else
                bif Nat.ble (((V.nth r1 0).toStr).length+((V.nth r2 0).toStr).length) aB then
                bif Nat.ble ((((V.nth r1 0).toStr)++((V.nth r2 0).toStr)).length+((V.nth r3 0).toStr).length) aB then
                 (C ax [.int .i64 ((V.nth aO 0).toInt),.int .i64 ((V.nth (aO.drop 1) 0).toInt),.list ag ((V.nth (aO.drop 3) 0).toList),.list ai ((V.nth ((aO.drop 3).drop 1) 0).toList),.str ((((V.nth r1 0).toStr)++((V.nth r2 0).toStr))++((V.nth r3 0).toStr))]).bind fun OV=>
                 bif (V.nth OV 0).toBool then
                 bif Nat.ble (((V.nth r1 0).toStr).length+((V.nth r3 0).toStr).length) aB then
                  (C ax [.int .i64 ((V.nth aO 0).toInt),.int .i64 ((V.nth (aO.drop 1) 0).toInt),.list ag ((V.nth (aO.drop 3) 0).toList),.list ai ((V.nth ((aO.drop 3).drop 1) 0).toList),.str (((V.nth r1 0).toStr)++((V.nth r3 0).toStr))]).bind fun I1=>
                  bif !((V.nth I1 0).toBool) then
                  some [.bool false]
                  else
                  bif Nat.ble (((V.nth r1 0).toStr).length+((V.nth r3 0).toStr).length) aB then
                   (C ax [.int .i64 ((V.nth ao 0).toInt),.int .i64 ((V.nth (ao.drop 1) 0).toInt),.list ag ((V.nth (ao.drop 3) 0).toList),.list ai ((V.nth ((ao.drop 3).drop 1) 0).toList),.str (((V.nth r1 0).toStr)++((V.nth r3 0).toStr))]).bind fun r26=>
                   bif (V.nth r26 0).toBool then
                   bif Nat.ble (((V.nth r1 0).toStr).length+((V.nth r2 0).toStr).length) aB then
                    bif Nat.ble ((((V.nth r1 0).toStr)++((V.nth r2 0).toStr)).length+((V.nth r3 0).toStr).length) aB then
                    (C ax [.int .i64 ((V.nth ao 0).toInt),.int .i64 ((V.nth (ao.drop 1) 0).toInt),.list ag ((V.nth (ao.drop 3) 0).toList),.list ai ((V.nth ((ao.drop 3).drop 1) 0).toList),.str ((((V.nth r1 0).toStr)++((V.nth r2 0).toStr))++((V.nth r3 0).toStr))]).bind fun r27=>
                    bif !((V.nth r27 0).toBool) then
                     some [.bool false]
                    else
                     (C ax [.int .i64 ((V.nth r8 0).toInt),.int .i64 ((V.nth (r8.drop 1) 0).toInt),.list ag ((V.nth (r8.drop 3) 0).toList),.list ai ((V.nth ((r8.drop 3).drop 1) 0).toList),.str ((V.nth r2 0).toStr)]).bind fun r28=>
                     (C bZ [.int .i64 aw,.int .i64 az,.list ag ar,.list ai ay,.str ((V.nth r2 0).toStr)]).bind fun r29=>
                     bif !(((V.nth r28 0).toBool)==((V.nth r29 0).toBool)) then
                     some [.bool false]
                     else
                     (C bU []).bind fun zf=>
                     some [.bool ((V.nth zf 0).toBool)]
                    else none
                   else none
                   else
                   (C ax [.int .i64 ((V.nth r8 0).toInt),.int .i64 ((V.nth (r8.drop 1) 0).toInt),.list ag ((V.nth (r8.drop 3) 0).toList),.list ai ((V.nth ((r8.drop 3).drop 1) 0).toList),.str ((V.nth r2 0).toStr)]).bind fun Jb=>
                   (C bZ [.int .i64 aw,.int .i64 az,.list ag ar,.list ai ay,.str ((V.nth r2 0).toStr)]).bind fun mw=>
                   bif !(((V.nth Jb 0).toBool)==((V.nth mw 0).toBool)) then
                    some [.bool false]
                   else
                    (C bU []).bind fun OW=>
                    some [.bool ((V.nth OW 0).toBool)]
                  else none
                 else none
                 else
                 bif Nat.ble (((V.nth r1 0).toStr).length+((V.nth r3 0).toStr).length) aB then
                  (C ax [.int .i64 ((V.nth ao 0).toInt),.int .i64 ((V.nth (ao.drop 1) 0).toInt),.list ag ((V.nth (ao.drop 3) 0).toList),.list ai ((V.nth ((ao.drop 3).drop 1) 0).toList),.str (((V.nth r1 0).toStr)++((V.nth r3 0).toStr))]).bind fun OX=>
                  bif (V.nth OX 0).toBool then
                  bif Nat.ble (((V.nth r1 0).toStr).length+((V.nth r2 0).toStr).length) aB then
                   bif Nat.ble ((((V.nth r1 0).toStr)++((V.nth r2 0).toStr)).length+((V.nth r3 0).toStr).length) aB then
                   (C ax [.int .i64 ((V.nth ao 0).toInt),.int .i64 ((V.nth (ao.drop 1) 0).toInt),.list ag ((V.nth (ao.drop 3) 0).toList),.list ai ((V.nth ((ao.drop 3).drop 1) 0).toList),.str ((((V.nth r1 0).toStr)++((V.nth r2 0).toStr))++((V.nth r3 0).toStr))]).bind fun my=>
                   bif !((V.nth my 0).toBool) then
                    some [.bool false]
                   else
                    (C ax [.int .i64 ((V.nth r8 0).toInt),.int .i64 ((V.nth (r8.drop 1) 0).toInt),.list ag ((V.nth (r8.drop 3) 0).toList),.list ai ((V.nth ((r8.drop 3).drop 1) 0).toList),.str ((V.nth r2 0).toStr)]).bind fun OY=>
                    (C bZ [.int .i64 aw,.int .i64 az,.list ag ar,.list ai ay,.str ((V.nth r2 0).toStr)]).bind fun OZ=>
                    bif !(((V.nth OY 0).toBool)==((V.nth OZ 0).toBool)) then
                    some [.bool false]
                    else
                    (C bU []).bind fun r38=>
                    some [.bool ((V.nth r38 0).toBool)]
                   else none
                  else none
                  else
                  (C ax [.int .i64 ((V.nth r8 0).toInt),.int .i64 ((V.nth (r8.drop 1) 0).toInt),.list ag ((V.nth (r8.drop 3) 0).toList),.list ai ((V.nth ((r8.drop 3).drop 1) 0).toList),.str ((V.nth r2 0).toStr)]).bind fun r39=>
                  (C bZ [.int .i64 aw,.int .i64 az,.list ag ar,.list ai ay,.str ((V.nth r2 0).toStr)]).bind fun r40=>
                  bif !(((V.nth r39 0).toBool)==((V.nth r40 0).toBool)) then
                   some [.bool false]
                  else
                   (C bU []).bind fun wO=>
                   some [.bool ((V.nth wO 0).toBool)]
                 else none
                else none
                else none
               else
               bif Nat.ble (((V.nth r1 0).toStr).length+((V.nth r2 0).toStr).length) aB then
                bif Nat.ble ((((V.nth r1 0).toStr)++((V.nth r2 0).toStr)).length+((V.nth r3 0).toStr).length) aB then
                (C ax [.int .i64 ((V.nth aO 0).toInt),.int .i64 ((V.nth (aO.drop 1) 0).toInt),.list ag ((V.nth (aO.drop 3) 0).toList),.list ai ((V.nth ((aO.drop 3).drop 1) 0).toList),.str ((((V.nth r1 0).toStr)++((V.nth r2 0).toStr))++((V.nth r3 0).toStr))]).bind fun P6=>
                bif (V.nth P6 0).toBool then
                 bif Nat.ble (((V.nth r1 0).toStr).length+((V.nth r3 0).toStr).length) aB then
                 (C ax [.int .i64 ((V.nth aO 0).toInt),.int .i64 ((V.nth (aO.drop 1) 0).toInt),.list ag ((V.nth (aO.drop 3) 0).toList),.list ai ((V.nth ((aO.drop 3).drop 1) 0).toList),.str (((V.nth r1 0).toStr)++((V.nth r3 0).toStr))]).bind fun sM=>
                 bif !((V.nth sM 0).toBool) then
                  some [.bool false]
                 else
                  bif Nat.ble (((V.nth r1 0).toStr).length+((V.nth r3 0).toStr).length) aB then
                  (C ax [.int .i64 ((V.nth ao 0).toInt),.int .i64 ((V.nth (ao.drop 1) 0).toInt),.list ag ((V.nth (ao.drop 3) 0).toList),.list ai ((V.nth ((ao.drop 3).drop 1) 0).toList),.str (((V.nth r1 0).toStr)++((V.nth r3 0).toStr))]).bind fun qG=>
                  bif (V.nth qG 0).toBool then
                   bif Nat.ble (((V.nth r1 0).toStr).length+((V.nth r2 0).toStr).length) aB then
                   bif Nat.ble ((((V.nth r1 0).toStr)++((V.nth r2 0).toStr)).length+((V.nth r3 0).toStr).length) aB then
                    (C ax [.int .i64 ((V.nth ao 0).toInt),.int .i64 ((V.nth (ao.drop 1) 0).toInt),.list ag ((V.nth (ao.drop 3) 0).toList),.list ai ((V.nth ((ao.drop 3).drop 1) 0).toList),.str ((((V.nth r1 0).toStr)++((V.nth r2 0).toStr))++((V.nth r3 0).toStr))]).bind fun mz=>
                    bif !((V.nth mz 0).toBool) then
                    some [.bool false]
                    else
                    (C ax [.int .i64 ((V.nth r8 0).toInt),.int .i64 ((V.nth (r8.drop 1) 0).toInt),.list ag ((V.nth (r8.drop 3) 0).toList),.list ai ((V.nth ((r8.drop 3).drop 1) 0).toList),.str ((V.nth r2 0).toStr)]).bind fun O0=>
                    (C bZ [.int .i64 aw,.int .i64 az,.list ag ar,.list ai ay,.str ((V.nth r2 0).toStr)]).bind fun O1=>
                    bif !(((V.nth O0 0).toBool)==((V.nth O1 0).toBool)) then
                     some [.bool false]
                    else
                     (C bU []).bind fun mA=>
                     some [.bool ((V.nth mA 0).toBool)]
                   else none
                   else none
                  else
                   (C ax [.int .i64 ((V.nth r8 0).toInt),.int .i64 ((V.nth (r8.drop 1) 0).toInt),.list ag ((V.nth (r8.drop 3) 0).toList),.list ai ((V.nth ((r8.drop 3).drop 1) 0).toList),.str ((V.nth r2 0).toStr)]).bind fun O2=>
                   (C bZ [.int .i64 aw,.int .i64 az,.list ag ar,.list ai ay,.str ((V.nth r2 0).toStr)]).bind fun O3=>
                   bif !(((V.nth O2 0).toBool)==((V.nth O3 0).toBool)) then
                   some [.bool false]
                   else
                   (C bU []).bind fun r51=>
                   some [.bool ((V.nth r51 0).toBool)]
                  else none
                 else none
                else
                 bif Nat.ble (((V.nth r1 0).toStr).length+((V.nth r3 0).toStr).length) aB then
                 (C ax [.int .i64 ((V.nth ao 0).toInt),.int .i64 ((V.nth (ao.drop 1) 0).toInt),.list ag ((V.nth (ao.drop 3) 0).toList),.list ai ((V.nth ((ao.drop 3).drop 1) 0).toList),.str (((V.nth r1 0).toStr)++((V.nth r3 0).toStr))]).bind fun r52=>
                 bif (V.nth r52 0).toBool then
                  bif Nat.ble (((V.nth r1 0).toStr).length+((V.nth r2 0).toStr).length) aB then
                  bif Nat.ble ((((V.nth r1 0).toStr)++((V.nth r2 0).toStr)).length+((V.nth r3 0).toStr).length) aB then
                   (C ax [.int .i64 ((V.nth ao 0).toInt),.int .i64 ((V.nth (ao.drop 1) 0).toInt),.list ag ((V.nth (ao.drop 3) 0).toList),.list ai ((V.nth ((ao.drop 3).drop 1) 0).toList),.str ((((V.nth r1 0).toStr)++((V.nth r2 0).toStr))++((V.nth r3 0).toStr))]).bind fun r53=>
                   bif !((V.nth r53 0).toBool) then
                   some [.bool false]
                   else
                   (C ax [.int .i64 ((V.nth r8 0).toInt),.int .i64 ((V.nth (r8.drop 1) 0).toInt),.list ag ((V.nth (r8.drop 3) 0).toList),.list ai ((V.nth ((r8.drop 3).drop 1) 0).toList),.str ((V.nth r2 0).toStr)]).bind fun r54=>
                   (C bZ [.int .i64 aw,.int .i64 az,.list ag ar,.list ai ay,.str ((V.nth r2 0).toStr)]).bind fun r55=>
                   bif !(((V.nth r54 0).toBool)==((V.nth r55 0).toBool)) then
                    some [.bool false]
                   else
                    (C bU []).bind fun r56=>
                    some [.bool ((V.nth r56 0).toBool)]
                  else none
                  else none
                 else
                  (C ax [.int .i64 ((V.nth r8 0).toInt),.int .i64 ((V.nth (r8.drop 1) 0).toInt),.list ag ((V.nth (r8.drop 3) 0).toList),.list ai ((V.nth ((r8.drop 3).drop 1) 0).toList),.str ((V.nth r2 0).toStr)]).bind fun r57=>
                  (C bZ [.int .i64 aw,.int .i64 az,.list ag ar,.list ai ay,.str ((V.nth r2 0).toStr)]).bind fun r58=>
                  bif !(((V.nth r57 0).toBool)==((V.nth r58 0).toBool)) then
                  some [.bool false]
                  else
                  (C bU []).bind fun r59=>
                  some [.bool ((V.nth r59 0).toBool)]
                 else none
                else none
               else none
              else none
              else none
             else
             bif Nat.ble (((V.nth r1 0).toStr).length+((V.nth r2 0).toStr).length) aB then
              bif Nat.ble ((((V.nth r1 0).toStr)++((V.nth r2 0).toStr)).length+((V.nth r3 0).toStr).length) aB then
              (C ax [.int .i64 ((V.nth bW 0).toInt),.int .i64 ((V.nth (bW.drop 1) 0).toInt),.list ag ((V.nth (bW.drop 3) 0).toList),.list ai ((V.nth ((bW.drop 3).drop 1) 0).toList),.str ((((V.nth r1 0).toStr)++((V.nth r2 0).toStr))++((V.nth r3 0).toStr))]).bind fun r60=>
              bif (V.nth r60 0).toBool then
               (C ax [.int .i64 ((V.nth bW 0).toInt),.int .i64 ((V.nth (bW.drop 1) 0).toInt),.list ag ((V.nth (bW.drop 3) 0).toList),.list ai ((V.nth ((bW.drop 3).drop 1) 0).toList),.str ((V.nth r2 0).toStr)]).bind fun r61=>
               bif !((V.nth r61 0).toBool) then
               some [.bool false]
               else
               bif Nat.ble (((V.nth r1 0).toStr).length+((V.nth r2 0).toStr).length) aB then
                bif Nat.ble ((((V.nth r1 0).toStr)++((V.nth r2 0).toStr)).length+((V.nth r3 0).toStr).length) aB then
                (C ax [.int .i64 ((V.nth aO 0).toInt),.int .i64 ((V.nth (aO.drop 1) 0).toInt),.list ag ((V.nth (aO.drop 3) 0).toList),.list ai ((V.nth ((aO.drop 3).drop 1) 0).toList),.str ((((V.nth r1 0).toStr)++((V.nth r2 0).toStr))++((V.nth r3 0).toStr))]).bind fun r62=>
                bif (V.nth r62 0).toBool then
                 bif Nat.ble (((V.nth r1 0).toStr).length+((V.nth r3 0).toStr).length) aB then
                 (C ax [.int .i64 ((V.nth aO 0).toInt),.int .i64 ((V.nth (aO.drop 1) 0).toInt),.list ag ((V.nth (aO.drop 3) 0).toList),.list ai ((V.nth ((aO.drop 3).drop 1) 0).toList),.str (((V.nth r1 0).toStr)++((V.nth r3 0).toStr))]).bind fun r63=>
                 bif !((V.nth r63 0).toBool) then
                  some [.bool false]
                 else
                  bif Nat.ble (((V.nth r1 0).toStr).length+((V.nth r3 0).toStr).length) aB then
                  (C ax [.int .i64 ((V.nth ao 0).toInt),.int .i64 ((V.nth (ao.drop 1) 0).toInt),.list ag ((V.nth (ao.drop 3) 0).toList),.list ai ((V.nth ((ao.drop 3).drop 1) 0).toList),.str (((V.nth r1 0).toStr)++((V.nth r3 0).toStr))]).bind fun r64=>
                  bif (V.nth r64 0).toBool then
                   bif Nat.ble (((V.nth r1 0).toStr).length+((V.nth r2 0).toStr).length) aB then
                   bif Nat.ble ((((V.nth r1 0).toStr)++((V.nth r2 0).toStr)).length+((V.nth r3 0).toStr).length) aB then
                    (C ax [.int .i64 ((V.nth ao 0).toInt),.int .i64 ((V.nth (ao.drop 1) 0).toInt),.list ag ((V.nth (ao.drop 3) 0).toList),.list ai ((V.nth ((ao.drop 3).drop 1) 0).toList),.str ((((V.nth r1 0).toStr)++((V.nth r2 0).toStr))++((V.nth r3 0).toStr))]).bind fun r65=>
                    bif !((V.nth r65 0).toBool) then
                    some [.bool false]
                    else
                    (C ax [.int .i64 ((V.nth r8 0).toInt),.int .i64 ((V.nth (r8.drop 1) 0).toInt),.list ag ((V.nth (r8.drop 3) 0).toList),.list ai ((V.nth ((r8.drop 3).drop 1) 0).toList),.str ((V.nth r2 0).toStr)]).bind fun r66=>
                    (C bZ [.int .i64 aw,.int .i64 az,.list ag ar,.list ai ay,.str ((V.nth r2 0).toStr)]).bind fun r67=>
                    bif !(((V.nth r66 0).toBool)==((V.nth r67 0).toBool)) then
                     some [.bool false]
                    else
                     (C bU []).bind fun r68=>
                     some [.bool ((V.nth r68 0).toBool)]
                   else none
                   else none
                  else
                   (C ax [.int .i64 ((V.nth r8 0).toInt),.int .i64 ((V.nth (r8.drop 1) 0).toInt),.list ag ((V.nth (r8.drop 3) 0).toList),.list ai ((V.nth ((r8.drop 3).drop 1) 0).toList),.str ((V.nth r2 0).toStr)]).bind fun r69=>
                   (C bZ [.int .i64 aw,.int .i64 az,.list ag ar,.list ai ay,.str ((V.nth r2 0).toStr)]).bind fun r70=>
                   bif !(((V.nth r69 0).toBool)==((V.nth r70 0).toBool)) then
                   some [.bool false]
                   else
                   (C bU []).bind fun r71=>
                   some [.bool ((V.nth r71 0).toBool)]
                  else none
                 else none
                else
                 bif Nat.ble (((V.nth r1 0).toStr).length+((V.nth r3 0).toStr).length) aB then
                 (C ax [.int .i64 ((V.nth ao 0).toInt),.int .i64 ((V.nth (ao.drop 1) 0).toInt),.list ag ((V.nth (ao.drop 3) 0).toList),.list ai ((V.nth ((ao.drop 3).drop 1) 0).toList),.str (((V.nth r1 0).toStr)++((V.nth r3 0).toStr))]).bind fun r72=>
                 bif (V.nth r72 0).toBool then
                  bif Nat.ble (((V.nth r1 0).toStr).length+((V.nth r2 0).toStr).length) aB then
                  bif Nat.ble ((((V.nth r1 0).toStr)++((V.nth r2 0).toStr)).length+((V.nth r3 0).toStr).length) aB then
                   (C ax [.int .i64 ((V.nth ao 0).toInt),.int .i64 ((V.nth (ao.drop 1) 0).toInt),.list ag ((V.nth (ao.drop 3) 0).toList),.list ai ((V.nth ((ao.drop 3).drop 1) 0).toList),.str ((((V.nth r1 0).toStr)++((V.nth r2 0).toStr))++((V.nth r3 0).toStr))]).bind fun r73=>
                   bif !((V.nth r73 0).toBool) then
                   some [.bool false]
                   else
                   (C ax [.int .i64 ((V.nth r8 0).toInt),.int .i64 ((V.nth (r8.drop 1) 0).toInt),.list ag ((V.nth (r8.drop 3) 0).toList),.list ai ((V.nth ((r8.drop 3).drop 1) 0).toList),.str ((V.nth r2 0).toStr)]).bind fun r74=>
                   (C bZ [.int .i64 aw,.int .i64 az,.list ag ar,.list ai ay,.str ((V.nth r2 0).toStr)]).bind fun r75=>
                   bif !(((V.nth r74 0).toBool)==((V.nth r75 0).toBool)) then
                    some [.bool false]
                   else
                    (C bU []).bind fun r76=>
                    some [.bool ((V.nth r76 0).toBool)]
                  else none
                  else none
                 else
                  (C ax [.int .i64 ((V.nth r8 0).toInt),.int .i64 ((V.nth (r8.drop 1) 0).toInt),.list ag ((V.nth (r8.drop 3) 0).toList),.list ai ((V.nth ((r8.drop 3).drop 1) 0).toList),.str ((V.nth r2 0).toStr)]).bind fun r77=>
                  (C bZ [.int .i64 aw,.int .i64 az,.list ag ar,.list ai ay,.str ((V.nth r2 0).toStr)]).bind fun r78=>
                  bif !(((V.nth r77 0).toBool)==((V.nth r78 0).toBool)) then
                  some [.bool false]
                  else
                  (C bU []).bind fun r79=>
                  some [.bool ((V.nth r79 0).toBool)]
                 else none
                else none
               else none
              else
               bif Nat.ble (((V.nth r1 0).toStr).length+((V.nth r2 0).toStr).length) aB then
               bif Nat.ble ((((V.nth r1 0).toStr)++((V.nth r2 0).toStr)).length+((V.nth r3 0).toStr).length) aB then
                (C ax [.int .i64 ((V.nth aO 0).toInt),.int .i64 ((V.nth (aO.drop 1) 0).toInt),.list ag ((V.nth (aO.drop 3) 0).toList),.list ai ((V.nth ((aO.drop 3).drop 1) 0).toList),.str ((((V.nth r1 0).toStr)++((V.nth r2 0).toStr))++((V.nth r3 0).toStr))]).bind fun r80=>
                bif (V.nth r80 0).toBool then
                bif Nat.ble (((V.nth r1 0).toStr).length+((V.nth r3 0).toStr).length) aB then
                 (C ax [.int .i64 ((V.nth aO 0).toInt),.int .i64 ((V.nth (aO.drop 1) 0).toInt),.list ag ((V.nth (aO.drop 3) 0).toList),.list ai ((V.nth ((aO.drop 3).drop 1) 0).toList),.str (((V.nth r1 0).toStr)++((V.nth r3 0).toStr))]).bind fun r81=>
                 bif !((V.nth r81 0).toBool) then
                 some [.bool false]
                 else
                 bif Nat.ble (((V.nth r1 0).toStr).length+((V.nth r3 0).toStr).length) aB then
                  (C ax [.int .i64 ((V.nth ao 0).toInt),.int .i64 ((V.nth (ao.drop 1) 0).toInt),.list ag ((V.nth (ao.drop 3) 0).toList),.list ai ((V.nth ((ao.drop 3).drop 1) 0).toList),.str (((V.nth r1 0).toStr)++((V.nth r3 0).toStr))]).bind fun r82=>
                  bif (V.nth r82 0).toBool then
                  bif Nat.ble (((V.nth r1 0).toStr).length+((V.nth r2 0).toStr).length) aB then
                   bif Nat.ble ((((V.nth r1 0).toStr)++((V.nth r2 0).toStr)).length+((V.nth r3 0).toStr).length) aB then
                   (C ax [.int .i64 ((V.nth ao 0).toInt),.int .i64 ((V.nth (ao.drop 1) 0).toInt),.list ag ((V.nth (ao.drop 3) 0).toList),.list ai ((V.nth ((ao.drop 3).drop 1) 0).toList),.str ((((V.nth r1 0).toStr)++((V.nth r2 0).toStr))++((V.nth r3 0).toStr))]).bind fun r83=>
                   bif !((V.nth r83 0).toBool) then
                    some [.bool false]
                   else
                    (C ax [.int .i64 ((V.nth r8 0).toInt),.int .i64 ((V.nth (r8.drop 1) 0).toInt),.list ag ((V.nth (r8.drop 3) 0).toList),.list ai ((V.nth ((r8.drop 3).drop 1) 0).toList),.str ((V.nth r2 0).toStr)]).bind fun r84=>
                    (C bZ [.int .i64 aw,.int .i64 az,.list ag ar,.list ai ay,.str ((V.nth r2 0).toStr)]).bind fun r85=>
                    bif !(((V.nth r84 0).toBool)==((V.nth r85 0).toBool)) then
                    some [.bool false]
                    else
                    (C bU []).bind fun r86=>
                    some [.bool ((V.nth r86 0).toBool)]
                   else none
                  else none
                  else
                  (C ax [.int .i64 ((V.nth r8 0).toInt),.int .i64 ((V.nth (r8.drop 1) 0).toInt),.list ag ((V.nth (r8.drop 3) 0).toList),.list ai ((V.nth ((r8.drop 3).drop 1) 0).toList),.str ((V.nth r2 0).toStr)]).bind fun r87=>
                  (C bZ [.int .i64 aw,.int .i64 az,.list ag ar,.list ai ay,.str ((V.nth r2 0).toStr)]).bind fun r88=>
                  bif !(((V.nth r87 0).toBool)==((V.nth r88 0).toBool)) then
                   some [.bool false]
                  else
                   (C bU []).bind fun r89=>
                   some [.bool ((V.nth r89 0).toBool)]
                 else none
                else none
                else
                bif Nat.ble (((V.nth r1 0).toStr).length+((V.nth r3 0).toStr).length) aB then
                 (C ax [.int .i64 ((V.nth ao 0).toInt),.int .i64 ((V.nth (ao.drop 1) 0).toInt),.list ag ((V.nth (ao.drop 3) 0).toList),.list ai ((V.nth ((ao.drop 3).drop 1) 0).toList),.str (((V.nth r1 0).toStr)++((V.nth r3 0).toStr))]).bind fun r90=>
                 bif (V.nth r90 0).toBool then
                 bif Nat.ble (((V.nth r1 0).toStr).length+((V.nth r2 0).toStr).length) aB then
                  bif Nat.ble ((((V.nth r1 0).toStr)++((V.nth r2 0).toStr)).length+((V.nth r3 0).toStr).length) aB then
                  (C ax [.int .i64 ((V.nth ao 0).toInt),.int .i64 ((V.nth (ao.drop 1) 0).toInt),.list ag ((V.nth (ao.drop 3) 0).toList),.list ai ((V.nth ((ao.drop 3).drop 1) 0).toList),.str ((((V.nth r1 0).toStr)++((V.nth r2 0).toStr))++((V.nth r3 0).toStr))]).bind fun r91=>
                  bif !((V.nth r91 0).toBool) then
                   some [.bool false]
                  else
                   (C ax [.int .i64 ((V.nth r8 0).toInt),.int .i64 ((V.nth (r8.drop 1) 0).toInt),.list ag ((V.nth (r8.drop 3) 0).toList),.list ai ((V.nth ((r8.drop 3).drop 1) 0).toList),.str ((V.nth r2 0).toStr)]).bind fun r92=>
                   (C bZ [.int .i64 aw,.int .i64 az,.list ag ar,.list ai ay,.str ((V.nth r2 0).toStr)]).bind fun r93=>
                   bif !(((V.nth r92 0).toBool)==((V.nth r93 0).toBool)) then
                   some [.bool false]
                   else
                   (C bU []).bind fun r94=>
                   some [.bool ((V.nth r94 0).toBool)]
                  else none
                 else none
                 else
                 (C ax [.int .i64 ((V.nth r8 0).toInt),.int .i64 ((V.nth (r8.drop 1) 0).toInt),.list ag ((V.nth (r8.drop 3) 0).toList),.list ai ((V.nth ((r8.drop 3).drop 1) 0).toList),.str ((V.nth r2 0).toStr)]).bind fun r95=>
                 (C bZ [.int .i64 aw,.int .i64 az,.list ag ar,.list ai ay,.str ((V.nth r2 0).toStr)]).bind fun r96=>
                 bif !(((V.nth r95 0).toBool)==((V.nth r96 0).toBool)) then
                  some [.bool false]
                 else
                  (C bU []).bind fun r97=>
                  some [.bool ((V.nth r97 0).toBool)]
                else none
               else none
               else none
              else none
             else none
            else none
           else none
           else none
          else
           bif Nat.ble (((V.nth r1 0).toStr).length+((V.nth r2 0).toStr).length) aB then
           (C ax [.int .i64 ((V.nth r8 0).toInt),.int .i64 ((V.nth (r8.drop 1) 0).toInt),.list ag ((V.nth (r8.drop 3) 0).toList),.list ai ((V.nth ((r8.drop 3).drop 1) 0).toList),.str (((V.nth r1 0).toStr)++((V.nth r2 0).toStr))]).bind fun r98=>
           bif (V.nth r98 0).toBool then
            (C ax [.int .i64 ((V.nth r8 0).toInt),.int .i64 ((V.nth (r8.drop 1) 0).toInt),.list ag ((V.nth (r8.drop 3) 0).toList),.list ai ((V.nth ((r8.drop 3).drop 1) 0).toList),.str ((V.nth r1 0).toStr)]).bind fun r99=>
            bif !((V.nth r99 0).toBool) then
            some [.bool false]
            else
            bif Nat.ble (((V.nth r1 0).toStr).length+((V.nth r2 0).toStr).length) aB then
             bif Nat.ble ((((V.nth r1 0).toStr)++((V.nth r2 0).toStr)).length+((V.nth r3 0).toStr).length) aB then
             (C ax [.int .i64 ((V.nth bW 0).toInt),.int .i64 ((V.nth (bW.drop 1) 0).toInt),.list ag ((V.nth (bW.drop 3) 0).toList),.list ai ((V.nth ((bW.drop 3).drop 1) 0).toList),.str ((((V.nth r1 0).toStr)++((V.nth r2 0).toStr))++((V.nth r3 0).toStr))]).bind fun al5=>
             bif (V.nth al5 0).toBool then
              (C ax [.int .i64 ((V.nth bW 0).toInt),.int .i64 ((V.nth (bW.drop 1) 0).toInt),.list ag ((V.nth (bW.drop 3) 0).toList),.list ai ((V.nth ((bW.drop 3).drop 1) 0).toList),.str ((V.nth r2 0).toStr)]).bind fun al6=>
              bif !((V.nth al6 0).toBool) then
              some [.bool false]
              else
              bif Nat.ble (((V.nth r1 0).toStr).length+((V.nth r2 0).toStr).length) aB then
               bif Nat.ble ((((V.nth r1 0).toStr)++((V.nth r2 0).toStr)).length+((V.nth r3 0).toStr).length) aB then
               (C ax [.int .i64 ((V.nth aO 0).toInt),.int .i64 ((V.nth (aO.drop 1) 0).toInt),.list ag ((V.nth (aO.drop 3) 0).toList),.list ai ((V.nth ((aO.drop 3).drop 1) 0).toList),.str ((((V.nth r1 0).toStr)++((V.nth r2 0).toStr))++((V.nth r3 0).toStr))]).bind fun al7=>
               bif (V.nth al7 0).toBool then
                bif Nat.ble (((V.nth r1 0).toStr).length+((V.nth r3 0).toStr).length) aB then
                (C ax [.int .i64 ((V.nth aO 0).toInt),.int .i64 ((V.nth (aO.drop 1) 0).toInt),.list ag ((V.nth (aO.drop 3) 0).toList),.list ai ((V.nth ((aO.drop 3).drop 1) 0).toList),.str (((V.nth r1 0).toStr)++((V.nth r3 0).toStr))]).bind fun al8=>
                bif !((V.nth al8 0).toBool) then
                 some [.bool false]
                else
                 bif Nat.ble (((V.nth r1 0).toStr).length+((V.nth r3 0).toStr).length) aB then
                 (C ax [.int .i64 ((V.nth ao 0).toInt),.int .i64 ((V.nth (ao.drop 1) 0).toInt),.list ag ((V.nth (ao.drop 3) 0).toList),.list ai ((V.nth ((ao.drop 3).drop 1) 0).toList),.str (((V.nth r1 0).toStr)++((V.nth r3 0).toStr))]).bind fun al9=>
                 bif (V.nth al9 0).toBool then
                  bif Nat.ble (((V.nth r1 0).toStr).length+((V.nth r2 0).toStr).length) aB then
                  bif Nat.ble ((((V.nth r1 0).toStr)++((V.nth r2 0).toStr)).length+((V.nth r3 0).toStr).length) aB then
                   (C ax [.int .i64 ((V.nth ao 0).toInt),.int .i64 ((V.nth (ao.drop 1) 0).toInt),.list ag ((V.nth (ao.drop 3) 0).toList),.list ai ((V.nth ((ao.drop 3).drop 1) 0).toList),.str ((((V.nth r1 0).toStr)++((V.nth r2 0).toStr))++((V.nth r3 0).toStr))]).bind fun ama=>
                   bif !((V.nth ama 0).toBool) then
                   some [.bool false]
                   else
                   (C ax [.int .i64 ((V.nth r8 0).toInt),.int .i64 ((V.nth (r8.drop 1) 0).toInt),.list ag ((V.nth (r8.drop 3) 0).toList),.list ai ((V.nth ((r8.drop 3).drop 1) 0).toList),.str ((V.nth r2 0).toStr)]).bind fun amb=>
                   (C bZ [.int .i64 aw,.int .i64 az,.list ag ar,.list ai ay,.str ((V.nth r2 0).toStr)]).bind fun amc=>
                   bif !(((V.nth amb 0).toBool)==((V.nth amc 0).toBool)) then
                    some [.bool false]
                   else
                    (C bU []).bind fun amd=>
                    some [.bool ((V.nth amd 0).toBool)]
                  else none
                  else none
                 else
                  (C ax [.int .i64 ((V.nth r8 0).toInt),.int .i64 ((V.nth (r8.drop 1) 0).toInt),.list ag ((V.nth (r8.drop 3) 0).toList),.list ai ((V.nth ((r8.drop 3).drop 1) 0).toList),.str ((V.nth r2 0).toStr)]).bind fun ame=>
                  (C bZ [.int .i64 aw,.int .i64 az,.list ag ar,.list ai ay,.str ((V.nth r2 0).toStr)]).bind fun amf=>
                  bif !(((V.nth ame 0).toBool)==((V.nth amf 0).toBool)) then
                  some [.bool false]
                  else
                  (C bU []).bind fun amg=>
                  some [.bool ((V.nth amg 0).toBool)]
                 else none
                else none
               else
                bif Nat.ble (((V.nth r1 0).toStr).length+((V.nth r3 0).toStr).length) aB then
                (C ax [.int .i64 ((V.nth ao 0).toInt),.int .i64 ((V.nth (ao.drop 1) 0).toInt),.list ag ((V.nth (ao.drop 3) 0).toList),.list ai ((V.nth ((ao.drop 3).drop 1) 0).toList),.str (((V.nth r1 0).toStr)++((V.nth r3 0).toStr))]).bind fun amh=>
                bif (V.nth amh 0).toBool then
                 bif Nat.ble (((V.nth r1 0).toStr).length+((V.nth r2 0).toStr).length) aB then
                 bif Nat.ble ((((V.nth r1 0).toStr)++((V.nth r2 0).toStr)).length+((V.nth r3 0).toStr).length) aB then
                  (C ax [.int .i64 ((V.nth ao 0).toInt),.int .i64 ((V.nth (ao.drop 1) 0).toInt),.list ag ((V.nth (ao.drop 3) 0).toList),.list ai ((V.nth ((ao.drop 3).drop 1) 0).toList),.str ((((V.nth r1 0).toStr)++((V.nth r2 0).toStr))++((V.nth r3 0).toStr))]).bind fun ami=>
                  bif !((V.nth ami 0).toBool) then
                  some [.bool false]
                  else
                  (C ax [.int .i64 ((V.nth r8 0).toInt),.int .i64 ((V.nth (r8.drop 1) 0).toInt),.list ag ((V.nth (r8.drop 3) 0).toList),.list ai ((V.nth ((r8.drop 3).drop 1) 0).toList),.str ((V.nth r2 0).toStr)]).bind fun amj=>
                  (C bZ [.int .i64 aw,.int .i64 az,.list ag ar,.list ai ay,.str ((V.nth r2 0).toStr)]).bind fun amk=>
                  bif !(((V.nth amj 0).toBool)==((V.nth amk 0).toBool)) then
                   some [.bool false]
                  else
                   (C bU []).bind fun aml=>
                   some [.bool ((V.nth aml 0).toBool)]
                 else none
                 else none
                else
                 (C ax [.int .i64 ((V.nth r8 0).toInt),.int .i64 ((V.nth (r8.drop 1) 0).toInt),.list ag ((V.nth (r8.drop 3) 0).toList),.list ai ((V.nth ((r8.drop 3).drop 1) 0).toList),.str ((V.nth r2 0).toStr)]).bind fun amm=>
                 (C bZ [.int .i64 aw,.int .i64 az,.list ag ar,.list ai ay,.str ((V.nth r2 0).toStr)]).bind fun amn=>
                 bif !(((V.nth amm 0).toBool)==((V.nth amn 0).toBool)) then
                 some [.bool false]
                 else
                 (C bU []).bind fun amo=>
                 some [.bool ((V.nth amo 0).toBool)]
                else none
               else none
              else none
             else
              bif Nat.ble (((V.nth r1 0).toStr).length+((V.nth r2 0).toStr).length) aB then
              bif Nat.ble ((((V.nth r1 0).toStr)++((V.nth r2 0).toStr)).length+((V.nth r3 0).toStr).length) aB then
               (C ax [.int .i64 ((V.nth aO 0).toInt),.int .i64 ((V.nth (aO.drop 1) 0).toInt),.list ag ((V.nth (aO.drop 3) 0).toList),.list ai ((V.nth ((aO.drop 3).drop 1) 0).toList),.str ((((V.nth r1 0).toStr)++((V.nth r2 0).toStr))++((V.nth r3 0).toStr))]).bind fun amp=>
               bif (V.nth amp 0).toBool then
               bif Nat.ble (((V.nth r1 0).toStr).length+((V.nth r3 0).toStr).length) aB then
                (C ax [.int .i64 ((V.nth aO 0).toInt),.int .i64 ((V.nth (aO.drop 1) 0).toInt),.list ag ((V.nth (aO.drop 3) 0).toList),.list ai ((V.nth ((aO.drop 3).drop 1) 0).toList),.str (((V.nth r1 0).toStr)++((V.nth r3 0).toStr))]).bind fun amq=>
                bif !((V.nth amq 0).toBool) then
                some [.bool false]
                else
                bif Nat.ble (((V.nth r1 0).toStr).length+((V.nth r3 0).toStr).length) aB then
                 (C ax [.int .i64 ((V.nth ao 0).toInt),.int .i64 ((V.nth (ao.drop 1) 0).toInt),.list ag ((V.nth (ao.drop 3) 0).toList),.list ai ((V.nth ((ao.drop 3).drop 1) 0).toList),.str (((V.nth r1 0).toStr)++((V.nth r3 0).toStr))]).bind fun amr=>
                 bif (V.nth amr 0).toBool then
                 bif Nat.ble (((V.nth r1 0).toStr).length+((V.nth r2 0).toStr).length) aB then
                  bif Nat.ble ((((V.nth r1 0).toStr)++((V.nth r2 0).toStr)).length+((V.nth r3 0).toStr).length) aB then
                  (C ax [.int .i64 ((V.nth ao 0).toInt),.int .i64 ((V.nth (ao.drop 1) 0).toInt),.list ag ((V.nth (ao.drop 3) 0).toList),.list ai ((V.nth ((ao.drop 3).drop 1) 0).toList),.str ((((V.nth r1 0).toStr)++((V.nth r2 0).toStr))++((V.nth r3 0).toStr))]).bind fun ams=>
                  bif !((V.nth ams 0).toBool) then
                   some [.bool false]
                  else
                   (C ax [.int .i64 ((V.nth r8 0).toInt),.int .i64 ((V.nth (r8.drop 1) 0).toInt),.list ag ((V.nth (r8.drop 3) 0).toList),.list ai ((V.nth ((r8.drop 3).drop 1) 0).toList),.str ((V.nth r2 0).toStr)]).bind fun amt=>
                   (C bZ [.int .i64 aw,.int .i64 az,.list ag ar,.list ai ay,.str ((V.nth r2 0).toStr)]).bind fun amu=>
                   bif !(((V.nth amt 0).toBool)==((V.nth amu 0).toBool)) then
                   some [.bool false]
                   else
                   (C bU []).bind fun amv=>
                   some [.bool ((V.nth amv 0).toBool)]
                  else none
                 else none
                 else
                 (C ax [.int .i64 ((V.nth r8 0).toInt),.int .i64 ((V.nth (r8.drop 1) 0).toInt),.list ag ((V.nth (r8.drop 3) 0).toList),.list ai ((V.nth ((r8.drop 3).drop 1) 0).toList),.str ((V.nth r2 0).toStr)]).bind fun amw=>
                 (C bZ [.int .i64 aw,.int .i64 az,.list ag ar,.list ai ay,.str ((V.nth r2 0).toStr)]).bind fun amx=>
                 bif !(((V.nth amw 0).toBool)==((V.nth amx 0).toBool)) then
                  some [.bool false]
                 else
                  (C bU []).bind fun amy=>
                  some [.bool ((V.nth amy 0).toBool)]
                else none
               else none
               else
               bif Nat.ble (((V.nth r1 0).toStr).length+((V.nth r3 0).toStr).length) aB then
                (C ax [.int .i64 ((V.nth ao 0).toInt),.int .i64 ((V.nth (ao.drop 1) 0).toInt),.list ag ((V.nth (ao.drop 3) 0).toList),.list ai ((V.nth ((ao.drop 3).drop 1) 0).toList),.str (((V.nth r1 0).toStr)++((V.nth r3 0).toStr))]).bind fun amz=>
                bif (V.nth amz 0).toBool then
                bif Nat.ble (((V.nth r1 0).toStr).length+((V.nth r2 0).toStr).length) aB then
                 bif Nat.ble ((((V.nth r1 0).toStr)++((V.nth r2 0).toStr)).length+((V.nth r3 0).toStr).length) aB then
                 (C ax [.int .i64 ((V.nth ao 0).toInt),.int .i64 ((V.nth (ao.drop 1) 0).toInt),.list ag ((V.nth (ao.drop 3) 0).toList),.list ai ((V.nth ((ao.drop 3).drop 1) 0).toList),.str ((((V.nth r1 0).toStr)++((V.nth r2 0).toStr))++((V.nth r3 0).toStr))]).bind fun amA=>
                 bif !((V.nth amA 0).toBool) then
                  some [.bool false]
                 else
                  (C ax [.int .i64 ((V.nth r8 0).toInt),.int .i64 ((V.nth (r8.drop 1) 0).toInt),.list ag ((V.nth (r8.drop 3) 0).toList),.list ai ((V.nth ((r8.drop 3).drop 1) 0).toList),.str ((V.nth r2 0).toStr)]).bind fun amB=>
                  (C bZ [.int .i64 aw,.int .i64 az,.list ag ar,.list ai ay,.str ((V.nth r2 0).toStr)]).bind fun amC=>
                  bif !(((V.nth amB 0).toBool)==((V.nth amC 0).toBool)) then
                  some [.bool false]
                  else
                  (C bU []).bind fun amD=>
                  some [.bool ((V.nth amD 0).toBool)]
                 else none
                else none
                else
                (C ax [.int .i64 ((V.nth r8 0).toInt),.int .i64 ((V.nth (r8.drop 1) 0).toInt),.list ag ((V.nth (r8.drop 3) 0).toList),.list ai ((V.nth ((r8.drop 3).drop 1) 0).toList),.str ((V.nth r2 0).toStr)]).bind fun amE=>
                (C bZ [.int .i64 aw,.int .i64 az,.list ag ar,.list ai ay,.str ((V.nth r2 0).toStr)]).bind fun amF=>
                bif !(((V.nth amE 0).toBool)==((V.nth amF 0).toBool)) then
                 some [.bool false]
                else
                 (C bU []).bind fun amG=>
                 some [.bool ((V.nth amG 0).toBool)]
               else none
              else none
              else none
             else none
            else none
           else
            bif Nat.ble (((V.nth r1 0).toStr).length+((V.nth r2 0).toStr).length) aB then
            bif Nat.ble ((((V.nth r1 0).toStr)++((V.nth r2 0).toStr)).length+((V.nth r3 0).toStr).length) aB then
             (C ax [.int .i64 ((V.nth bW 0).toInt),.int .i64 ((V.nth (bW.drop 1) 0).toInt),.list ag ((V.nth (bW.drop 3) 0).toList),.list ai ((V.nth ((bW.drop 3).drop 1) 0).toList),.str ((((V.nth r1 0).toStr)++((V.nth r2 0).toStr))++((V.nth r3 0).toStr))]).bind fun amH=>
             bif (V.nth amH 0).toBool then
             (C ax [.int .i64 ((V.nth bW 0).toInt),.int .i64 ((V.nth (bW.drop 1) 0).toInt),.list ag ((V.nth (bW.drop 3) 0).toList),.list ai ((V.nth ((bW.drop 3).drop 1) 0).toList),.str ((V.nth r2 0).toStr)]).bind fun amI=>
             bif !((V.nth amI 0).toBool) then
              some [.bool false]
             else
              bif Nat.ble (((V.nth r1 0).toStr).length+((V.nth r2 0).toStr).length) aB then
              bif Nat.ble ((((V.nth r1 0).toStr)++((V.nth r2 0).toStr)).length+((V.nth r3 0).toStr).length) aB then
               (C ax [.int .i64 ((V.nth aO 0).toInt),.int .i64 ((V.nth (aO.drop 1) 0).toInt),.list ag ((V.nth (aO.drop 3) 0).toList),.list ai ((V.nth ((aO.drop 3).drop 1) 0).toList),.str ((((V.nth r1 0).toStr)++((V.nth r2 0).toStr))++((V.nth r3 0).toStr))]).bind fun amJ=>
               bif (V.nth amJ 0).toBool then
               bif Nat.ble (((V.nth r1 0).toStr).length+((V.nth r3 0).toStr).length) aB then
                (C ax [.int .i64 ((V.nth aO 0).toInt),.int .i64 ((V.nth (aO.drop 1) 0).toInt),.list ag ((V.nth (aO.drop 3) 0).toList),.list ai ((V.nth ((aO.drop 3).drop 1) 0).toList),.str (((V.nth r1 0).toStr)++((V.nth r3 0).toStr))]).bind fun amK=>
                bif !((V.nth amK 0).toBool) then
                some [.bool false]
                else
                bif Nat.ble (((V.nth r1 0).toStr).length+((V.nth r3 0).toStr).length) aB then
                 (C ax [.int .i64 ((V.nth ao 0).toInt),.int .i64 ((V.nth (ao.drop 1) 0).toInt),.list ag ((V.nth (ao.drop 3) 0).toList),.list ai ((V.nth ((ao.drop 3).drop 1) 0).toList),.str (((V.nth r1 0).toStr)++((V.nth r3 0).toStr))]).bind fun amL=>
                 bif (V.nth amL 0).toBool then
                 bif Nat.ble (((V.nth r1 0).toStr).length+((V.nth r2 0).toStr).length) aB then
                  bif Nat.ble ((((V.nth r1 0).toStr)++((V.nth r2 0).toStr)).length+((V.nth r3 0).toStr).length) aB then
                  (C ax [.int .i64 ((V.nth ao 0).toInt),.int .i64 ((V.nth (ao.drop 1) 0).toInt),.list ag ((V.nth (ao.drop 3) 0).toList),.list ai ((V.nth ((ao.drop 3).drop 1) 0).toList),.str ((((V.nth r1 0).toStr)++((V.nth r2 0).toStr))++((V.nth r3 0).toStr))]).bind fun amM=>
                  bif !((V.nth amM 0).toBool) then
                   some [.bool false]
                  else
                   (C ax [.int .i64 ((V.nth r8 0).toInt),.int .i64 ((V.nth (r8.drop 1) 0).toInt),.list ag ((V.nth (r8.drop 3) 0).toList),.list ai ((V.nth ((r8.drop 3).drop 1) 0).toList),.str ((V.nth r2 0).toStr)]).bind fun amN=>
                   (C bZ [.int .i64 aw,.int .i64 az,.list ag ar,.list ai ay,.str ((V.nth r2 0).toStr)]).bind fun amO=>
                   bif !(((V.nth amN 0).toBool)==((V.nth amO 0).toBool)) then
                   some [.bool false]
                   else
                   (C bU []).bind fun amP=>
                   some [.bool ((V.nth amP 0).toBool)]
                  else none
                 else none
                 else
                 (C ax [.int .i64 ((V.nth r8 0).toInt),.int .i64 ((V.nth (r8.drop 1) 0).toInt),.list ag ((V.nth (r8.drop 3) 0).toList),.list ai ((V.nth ((r8.drop 3).drop 1) 0).toList),.str ((V.nth r2 0).toStr)]).bind fun amQ=>
                 (C bZ [.int .i64 aw,.int .i64 az,.list ag ar,.list ai ay,.str ((V.nth r2 0).toStr)]).bind fun amR=>
                 bif !(((V.nth amQ 0).toBool)==((V.nth amR 0).toBool)) then
                  some [.bool false]
                 else
                  (C bU []).bind fun amS=>
                  some [.bool ((V.nth amS 0).toBool)]
                else none
               else none
               else
               bif Nat.ble (((V.nth r1 0).toStr).length+((V.nth r3 0).toStr).length) aB then
                (C ax [.int .i64 ((V.nth ao 0).toInt),.int .i64 ((V.nth (ao.drop 1) 0).toInt),.list ag ((V.nth (ao.drop 3) 0).toList),.list ai ((V.nth ((ao.drop 3).drop 1) 0).toList),.str (((V.nth r1 0).toStr)++((V.nth r3 0).toStr))]).bind fun amT=>
                bif (V.nth amT 0).toBool then
                bif Nat.ble (((V.nth r1 0).toStr).length+((V.nth r2 0).toStr).length) aB then
                 bif Nat.ble ((((V.nth r1 0).toStr)++((V.nth r2 0).toStr)).length+((V.nth r3 0).toStr).length) aB then
                 (C ax [.int .i64 ((V.nth ao 0).toInt),.int .i64 ((V.nth (ao.drop 1) 0).toInt),.list ag ((V.nth (ao.drop 3) 0).toList),.list ai ((V.nth ((ao.drop 3).drop 1) 0).toList),.str ((((V.nth r1 0).toStr)++((V.nth r2 0).toStr))++((V.nth r3 0).toStr))]).bind fun amU=>
                 bif !((V.nth amU 0).toBool) then
                  some [.bool false]
                 else
                  (C ax [.int .i64 ((V.nth r8 0).toInt),.int .i64 ((V.nth (r8.drop 1) 0).toInt),.list ag ((V.nth (r8.drop 3) 0).toList),.list ai ((V.nth ((r8.drop 3).drop 1) 0).toList),.str ((V.nth r2 0).toStr)]).bind fun amV=>
                  (C bZ [.int .i64 aw,.int .i64 az,.list ag ar,.list ai ay,.str ((V.nth r2 0).toStr)]).bind fun amW=>
                  bif !(((V.nth amV 0).toBool)==((V.nth amW 0).toBool)) then
                  some [.bool false]
                  else
                  (C bU []).bind fun amX=>
                  some [.bool ((V.nth amX 0).toBool)]
                 else none
                else none
                else
                (C ax [.int .i64 ((V.nth r8 0).toInt),.int .i64 ((V.nth (r8.drop 1) 0).toInt),.list ag ((V.nth (r8.drop 3) 0).toList),.list ai ((V.nth ((r8.drop 3).drop 1) 0).toList),.str ((V.nth r2 0).toStr)]).bind fun amY=>
                (C bZ [.int .i64 aw,.int .i64 az,.list ag ar,.list ai ay,.str ((V.nth r2 0).toStr)]).bind fun amZ=>
                bif !(((V.nth amY 0).toBool)==((V.nth amZ 0).toBool)) then
                 some [.bool false]
                else
                 (C bU []).bind fun am0=>
                 some [.bool ((V.nth am0 0).toBool)]
               else none
              else none
              else none
             else
             bif Nat.ble (((V.nth r1 0).toStr).length+((V.nth r2 0).toStr).length) aB then
              bif Nat.ble ((((V.nth r1 0).toStr)++((V.nth r2 0).toStr)).length+((V.nth r3 0).toStr).length) aB then
              (C ax [.int .i64 ((V.nth aO 0).toInt),.int .i64 ((V.nth (aO.drop 1) 0).toInt),.list ag ((V.nth (aO.drop 3) 0).toList),.list ai ((V.nth ((aO.drop 3).drop 1) 0).toList),.str ((((V.nth r1 0).toStr)++((V.nth r2 0).toStr))++((V.nth r3 0).toStr))]).bind fun am1=>
              bif (V.nth am1 0).toBool then
               bif Nat.ble (((V.nth r1 0).toStr).length+((V.nth r3 0).toStr).length) aB then
               (C ax [.int .i64 ((V.nth aO 0).toInt),.int .i64 ((V.nth (aO.drop 1) 0).toInt),.list ag ((V.nth (aO.drop 3) 0).toList),.list ai ((V.nth ((aO.drop 3).drop 1) 0).toList),.str (((V.nth r1 0).toStr)++((V.nth r3 0).toStr))]).bind fun am2=>
               bif !((V.nth am2 0).toBool) then
                some [.bool false]
               else
                bif Nat.ble (((V.nth r1 0).toStr).length+((V.nth r3 0).toStr).length) aB then
                (C ax [.int .i64 ((V.nth ao 0).toInt),.int .i64 ((V.nth (ao.drop 1) 0).toInt),.list ag ((V.nth (ao.drop 3) 0).toList),.list ai ((V.nth ((ao.drop 3).drop 1) 0).toList),.str (((V.nth r1 0).toStr)++((V.nth r3 0).toStr))]).bind fun am3=>
                bif (V.nth am3 0).toBool then
                 bif Nat.ble (((V.nth r1 0).toStr).length+((V.nth r2 0).toStr).length) aB then
                 bif Nat.ble ((((V.nth r1 0).toStr)++((V.nth r2 0).toStr)).length+((V.nth r3 0).toStr).length) aB then
                  (C ax [.int .i64 ((V.nth ao 0).toInt),.int .i64 ((V.nth (ao.drop 1) 0).toInt),.list ag ((V.nth (ao.drop 3) 0).toList),.list ai ((V.nth ((ao.drop 3).drop 1) 0).toList),.str ((((V.nth r1 0).toStr)++((V.nth r2 0).toStr))++((V.nth r3 0).toStr))]).bind fun am4=>
                  bif !((V.nth am4 0).toBool) then
                  some [.bool false]
                  else
                  (C ax [.int .i64 ((V.nth r8 0).toInt),.int .i64 ((V.nth (r8.drop 1) 0).toInt),.list ag ((V.nth (r8.drop 3) 0).toList),.list ai ((V.nth ((r8.drop 3).drop 1) 0).toList),.str ((V.nth r2 0).toStr)]).bind fun am5=>
                  (C bZ [.int .i64 aw,.int .i64 az,.list ag ar,.list ai ay,.str ((V.nth r2 0).toStr)]).bind fun am6=>
                  bif !(((V.nth am5 0).toBool)==((V.nth am6 0).toBool)) then
                   some [.bool false]
                  else
                   (C bU []).bind fun am7=>
                   some [.bool ((V.nth am7 0).toBool)]
                 else none
                 else none
                else
                 (C ax [.int .i64 ((V.nth r8 0).toInt),.int .i64 ((V.nth (r8.drop 1) 0).toInt),.list ag ((V.nth (r8.drop 3) 0).toList),.list ai ((V.nth ((r8.drop 3).drop 1) 0).toList),.str ((V.nth r2 0).toStr)]).bind fun am8=>
                 (C bZ [.int .i64 aw,.int .i64 az,.list ag ar,.list ai ay,.str ((V.nth r2 0).toStr)]).bind fun am9=>
                 bif !(((V.nth am8 0).toBool)==((V.nth am9 0).toBool)) then
                 some [.bool false]
                 else
                 (C bU []).bind fun ana=>
                 some [.bool ((V.nth ana 0).toBool)]
                else none
               else none
              else
               bif Nat.ble (((V.nth r1 0).toStr).length+((V.nth r3 0).toStr).length) aB then
               (C ax [.int .i64 ((V.nth ao 0).toInt),.int .i64 ((V.nth (ao.drop 1) 0).toInt),.list ag ((V.nth (ao.drop 3) 0).toList),.list ai ((V.nth ((ao.drop 3).drop 1) 0).toList),.str (((V.nth r1 0).toStr)++((V.nth r3 0).toStr))]).bind fun anb=>
               bif (V.nth anb 0).toBool then
                bif Nat.ble (((V.nth r1 0).toStr).length+((V.nth r2 0).toStr).length) aB then
                bif Nat.ble ((((V.nth r1 0).toStr)++((V.nth r2 0).toStr)).length+((V.nth r3 0).toStr).length) aB then
                 (C ax [.int .i64 ((V.nth ao 0).toInt),.int .i64 ((V.nth (ao.drop 1) 0).toInt),.list ag ((V.nth (ao.drop 3) 0).toList),.list ai ((V.nth ((ao.drop 3).drop 1) 0).toList),.str ((((V.nth r1 0).toStr)++((V.nth r2 0).toStr))++((V.nth r3 0).toStr))]).bind fun anc=>
                 bif !((V.nth anc 0).toBool) then
                 some [.bool false]
                 else
                 (C ax [.int .i64 ((V.nth r8 0).toInt),.int .i64 ((V.nth (r8.drop 1) 0).toInt),.list ag ((V.nth (r8.drop 3) 0).toList),.list ai ((V.nth ((r8.drop 3).drop 1) 0).toList),.str ((V.nth r2 0).toStr)]).bind fun ane=>
                 (C bZ [.int .i64 aw,.int .i64 az,.list ag ar,.list ai ay,.str ((V.nth r2 0).toStr)]).bind fun anf=>
                 bif !(((V.nth ane 0).toBool)==((V.nth anf 0).toBool)) then
                  some [.bool false]
                 else
                  (C bU []).bind fun ang=>
                  some [.bool ((V.nth ang 0).toBool)]
                else none
                else none
               else
                (C ax [.int .i64 ((V.nth r8 0).toInt),.int .i64 ((V.nth (r8.drop 1) 0).toInt),.list ag ((V.nth (r8.drop 3) 0).toList),.list ai ((V.nth ((r8.drop 3).drop 1) 0).toList),.str ((V.nth r2 0).toStr)]).bind fun anh=>
                (C bZ [.int .i64 aw,.int .i64 az,.list ag ar,.list ai ay,.str ((V.nth r2 0).toStr)]).bind fun ani=>
                bif !(((V.nth anh 0).toBool)==((V.nth ani 0).toBool)) then
                some [.bool false]
                else
                (C bU []).bind fun anj=>
                some [.bool ((V.nth anj 0).toBool)]
               else none
              else none
             else none
            else none
            else none
           else none
          else none
         else none
       else
       bif Nat.ble (((V.nth r1 0).toStr).length+((V.nth r3 0).toStr).length) aB then
        (C ax [.int .i64 aw,.int .i64 az,.list ag ar,.list ai ay,.str (((V.nth r1 0).toStr)++((V.nth r3 0).toStr))]).bind fun ank=>
        bif (V.nth ank 0).toBool then
        bif Nat.ble (((V.nth r1 0).toStr).length+((V.nth r2 0).toStr).length) aB then
         bif Nat.ble ((((V.nth r1 0).toStr)++((V.nth r2 0).toStr)).length+((V.nth r3 0).toStr).length) aB then
         (C ax [.int .i64 ((V.nth ao 0).toInt),.int .i64 ((V.nth (ao.drop 1) 0).toInt),.list ag ((V.nth (ao.drop 3) 0).toList),.list ai ((V.nth ((ao.drop 3).drop 1) 0).toList),.str ((((V.nth r1 0).toStr)++((V.nth r2 0).toStr))++((V.nth r3 0).toStr))]).bind fun anl=>
         bif !((V.nth anl 0).toBool) then
          some [.bool false]
         else
          bif Nat.ble (((V.nth r1 0).toStr).length+((V.nth r2 0).toStr).length) aB then
          (C ax [.int .i64 ((V.nth r8 0).toInt),.int .i64 ((V.nth (r8.drop 1) 0).toInt),.list ag ((V.nth (r8.drop 3) 0).toList),.list ai ((V.nth ((r8.drop 3).drop 1) 0).toList),.str (((V.nth r1 0).toStr)++((V.nth r2 0).toStr))]).bind fun anm=>
          bif (V.nth anm 0).toBool then
           (C ax [.int .i64 ((V.nth r8 0).toInt),.int .i64 ((V.nth (r8.drop 1) 0).toInt),.list ag ((V.nth (r8.drop 3) 0).toList),.list ai ((V.nth ((r8.drop 3).drop 1) 0).toList),.str ((V.nth r1 0).toStr)]).bind fun ano=>
           bif !((V.nth ano 0).toBool) then
           some [.bool false]
           else
           bif Nat.ble (((V.nth r1 0).toStr).length+((V.nth r2 0).toStr).length) aB then
            bif Nat.ble ((((V.nth r1 0).toStr)++((V.nth r2 0).toStr)).length+((V.nth r3 0).toStr).length) aB then
            (C ax [.int .i64 ((V.nth bW 0).toInt),.int .i64 ((V.nth (bW.drop 1) 0).toInt),.list ag ((V.nth (bW.drop 3) 0).toList),.list ai ((V.nth ((bW.drop 3).drop 1) 0).toList),.str ((((V.nth r1 0).toStr)++((V.nth r2 0).toStr))++((V.nth r3 0).toStr))]).bind fun anp=>
            bif (V.nth anp 0).toBool then
             (C ax [.int .i64 ((V.nth bW 0).toInt),.int .i64 ((V.nth (bW.drop 1) 0).toInt),.list ag ((V.nth (bW.drop 3) 0).toList),.list ai ((V.nth ((bW.drop 3).drop 1) 0).toList),.str ((V.nth r2 0).toStr)]).bind fun anq=>
             bif !((V.nth anq 0).toBool) then
             some [.bool false]
             else
             bif Nat.ble (((V.nth r1 0).toStr).length+((V.nth r2 0).toStr).length) aB then
              bif Nat.ble ((((V.nth r1 0).toStr)++((V.nth r2 0).toStr)).length+((V.nth r3 0).toStr).length) aB then
              (C ax [.int .i64 ((V.nth aO 0).toInt),.int .i64 ((V.nth (aO.drop 1) 0).toInt),.list ag ((V.nth (aO.drop 3) 0).toList),.list ai ((V.nth ((aO.drop 3).drop 1) 0).toList),.str ((((V.nth r1 0).toStr)++((V.nth r2 0).toStr))++((V.nth r3 0).toStr))]).bind fun anr=>
              bif (V.nth anr 0).toBool then
               bif Nat.ble (((V.nth r1 0).toStr).length+((V.nth r3 0).toStr).length) aB then
               (C ax [.int .i64 ((V.nth aO 0).toInt),.int .i64 ((V.nth (aO.drop 1) 0).toInt),.list ag ((V.nth (aO.drop 3) 0).toList),.list ai ((V.nth ((aO.drop 3).drop 1) 0).toList),.str (((V.nth r1 0).toStr)++((V.nth r3 0).toStr))]).bind fun ans=>
               bif !((V.nth ans 0).toBool) then
                some [.bool false]
               else
                bif Nat.ble (((V.nth r1 0).toStr).length+((V.nth r3 0).toStr).length) aB then
                (C ax [.int .i64 ((V.nth ao 0).toInt),.int .i64 ((V.nth (ao.drop 1) 0).toInt),.list ag ((V.nth (ao.drop 3) 0).toList),.list ai ((V.nth ((ao.drop 3).drop 1) 0).toList),.str (((V.nth r1 0).toStr)++((V.nth r3 0).toStr))]).bind fun ant=>
                bif (V.nth ant 0).toBool then
                 bif Nat.ble (((V.nth r1 0).toStr).length+((V.nth r2 0).toStr).length) aB then
                 bif Nat.ble ((((V.nth r1 0).toStr)++((V.nth r2 0).toStr)).length+((V.nth r3 0).toStr).length) aB then
                  (C ax [.int .i64 ((V.nth ao 0).toInt),.int .i64 ((V.nth (ao.drop 1) 0).toInt),.list ag ((V.nth (ao.drop 3) 0).toList),.list ai ((V.nth ((ao.drop 3).drop 1) 0).toList),.str ((((V.nth r1 0).toStr)++((V.nth r2 0).toStr))++((V.nth r3 0).toStr))]).bind fun anu=>
                  bif !((V.nth anu 0).toBool) then
                  some [.bool false]
                  else
                  (C ax [.int .i64 ((V.nth r8 0).toInt),.int .i64 ((V.nth (r8.drop 1) 0).toInt),.list ag ((V.nth (r8.drop 3) 0).toList),.list ai ((V.nth ((r8.drop 3).drop 1) 0).toList),.str ((V.nth r2 0).toStr)]).bind fun anv=>
                  (C bZ [.int .i64 aw,.int .i64 az,.list ag ar,.list ai ay,.str ((V.nth r2 0).toStr)]).bind fun anw=>
                  bif !(((V.nth anv 0).toBool)==((V.nth anw 0).toBool)) then
                   some [.bool false]
                  else
                   (C bU []).bind fun anx=>
                   some [.bool ((V.nth anx 0).toBool)]
                 else none
                 else none
                else
                 (C ax [.int .i64 ((V.nth r8 0).toInt),.int .i64 ((V.nth (r8.drop 1) 0).toInt),.list ag ((V.nth (r8.drop 3) 0).toList),.list ai ((V.nth ((r8.drop 3).drop 1) 0).toList),.str ((V.nth r2 0).toStr)]).bind fun anz=>
                 (C bZ [.int .i64 aw,.int .i64 az,.list ag ar,.list ai ay,.str ((V.nth r2 0).toStr)]).bind fun anA=>
                 bif !(((V.nth anz 0).toBool)==((V.nth anA 0).toBool)) then
                 some [.bool false]
                 else
                 (C bU []).bind fun anB=>
                 some [.bool ((V.nth anB 0).toBool)]
                else none
               else none
              else
               bif Nat.ble (((V.nth r1 0).toStr).length+((V.nth r3 0).toStr).length) aB then
               (C ax [.int .i64 ((V.nth ao 0).toInt),.int .i64 ((V.nth (ao.drop 1) 0).toInt),.list ag ((V.nth (ao.drop 3) 0).toList),.list ai ((V.nth ((ao.drop 3).drop 1) 0).toList),.str (((V.nth r1 0).toStr)++((V.nth r3 0).toStr))]).bind fun anC=>
               bif (V.nth anC 0).toBool then
                bif Nat.ble (((V.nth r1 0).toStr).length+((V.nth r2 0).toStr).length) aB then
                bif Nat.ble ((((V.nth r1 0).toStr)++((V.nth r2 0).toStr)).length+((V.nth r3 0).toStr).length) aB then
                 (C ax [.int .i64 ((V.nth ao 0).toInt),.int .i64 ((V.nth (ao.drop 1) 0).toInt),.list ag ((V.nth (ao.drop 3) 0).toList),.list ai ((V.nth ((ao.drop 3).drop 1) 0).toList),.str ((((V.nth r1 0).toStr)++((V.nth r2 0).toStr))++((V.nth r3 0).toStr))]).bind fun anD=>
                 bif !((V.nth anD 0).toBool) then
                 some [.bool false]
                 else
                 (C ax [.int .i64 ((V.nth r8 0).toInt),.int .i64 ((V.nth (r8.drop 1) 0).toInt),.list ag ((V.nth (r8.drop 3) 0).toList),.list ai ((V.nth ((r8.drop 3).drop 1) 0).toList),.str ((V.nth r2 0).toStr)]).bind fun anE=>
                 (C bZ [.int .i64 aw,.int .i64 az,.list ag ar,.list ai ay,.str ((V.nth r2 0).toStr)]).bind fun anF=>
                 bif !(((V.nth anE 0).toBool)==((V.nth anF 0).toBool)) then
                  some [.bool false]
                 else
                  (C bU []).bind fun anG=>
                  some [.bool ((V.nth anG 0).toBool)]
                else none
                else none
               else
                (C ax [.int .i64 ((V.nth r8 0).toInt),.int .i64 ((V.nth (r8.drop 1) 0).toInt),.list ag ((V.nth (r8.drop 3) 0).toList),.list ai ((V.nth ((r8.drop 3).drop 1) 0).toList),.str ((V.nth r2 0).toStr)]).bind fun anH=>
                (C bZ [.int .i64 aw,.int .i64 az,.list ag ar,.list ai ay,.str ((V.nth r2 0).toStr)]).bind fun anI=>
                bif !(((V.nth anH 0).toBool)==((V.nth anI 0).toBool)) then
                some [.bool false]
                else
                (C bU []).bind fun anJ=>
                some [.bool ((V.nth anJ 0).toBool)]
               else none
              else none
             else none
            else
             bif Nat.ble (((V.nth r1 0).toStr).length+((V.nth r2 0).toStr).length) aB then
             bif Nat.ble ((((V.nth r1 0).toStr)++((V.nth r2 0).toStr)).length+((V.nth r3 0).toStr).length) aB then
              (C ax [.int .i64 ((V.nth aO 0).toInt),.int .i64 ((V.nth (aO.drop 1) 0).toInt),.list ag ((V.nth (aO.drop 3) 0).toList),.list ai ((V.nth ((aO.drop 3).drop 1) 0).toList),.str ((((V.nth r1 0).toStr)++((V.nth r2 0).toStr))++((V.nth r3 0).toStr))]).bind fun anK=>
              bif (V.nth anK 0).toBool then
              bif Nat.ble (((V.nth r1 0).toStr).length+((V.nth r3 0).toStr).length) aB then
               (C ax [.int .i64 ((V.nth aO 0).toInt),.int .i64 ((V.nth (aO.drop 1) 0).toInt),.list ag ((V.nth (aO.drop 3) 0).toList),.list ai ((V.nth ((aO.drop 3).drop 1) 0).toList),.str (((V.nth r1 0).toStr)++((V.nth r3 0).toStr))]).bind fun anL=>
               bif !((V.nth anL 0).toBool) then
               some [.bool false]
               else
               bif Nat.ble (((V.nth r1 0).toStr).length+((V.nth r3 0).toStr).length) aB then
                (C ax [.int .i64 ((V.nth ao 0).toInt),.int .i64 ((V.nth (ao.drop 1) 0).toInt),.list ag ((V.nth (ao.drop 3) 0).toList),.list ai ((V.nth ((ao.drop 3).drop 1) 0).toList),.str (((V.nth r1 0).toStr)++((V.nth r3 0).toStr))]).bind fun anM=>
                bif (V.nth anM 0).toBool then
                bif Nat.ble (((V.nth r1 0).toStr).length+((V.nth r2 0).toStr).length) aB then
                 bif Nat.ble ((((V.nth r1 0).toStr)++((V.nth r2 0).toStr)).length+((V.nth r3 0).toStr).length) aB then
                 (C ax [.int .i64 ((V.nth ao 0).toInt),.int .i64 ((V.nth (ao.drop 1) 0).toInt),.list ag ((V.nth (ao.drop 3) 0).toList),.list ai ((V.nth ((ao.drop 3).drop 1) 0).toList),.str ((((V.nth r1 0).toStr)++((V.nth r2 0).toStr))++((V.nth r3 0).toStr))]).bind fun anN=>
                 bif !((V.nth anN 0).toBool) then
                  some [.bool false]
                 else
                  (C ax [.int .i64 ((V.nth r8 0).toInt),.int .i64 ((V.nth (r8.drop 1) 0).toInt),.list ag ((V.nth (r8.drop 3) 0).toList),.list ai ((V.nth ((r8.drop 3).drop 1) 0).toList),.str ((V.nth r2 0).toStr)]).bind fun anO=>
                  (C bZ [.int .i64 aw,.int .i64 az,.list ag ar,.list ai ay,.str ((V.nth r2 0).toStr)]).bind fun anP=>
                  bif !(((V.nth anO 0).toBool)==((V.nth anP 0).toBool)) then
                  some [.bool false]
                  else
                  (C bU []).bind fun anQ=>
                  some [.bool ((V.nth anQ 0).toBool)]
                 else none
                else none
                else
                (C ax [.int .i64 ((V.nth r8 0).toInt),.int .i64 ((V.nth (r8.drop 1) 0).toInt),.list ag ((V.nth (r8.drop 3) 0).toList),.list ai ((V.nth ((r8.drop 3).drop 1) 0).toList),.str ((V.nth r2 0).toStr)]).bind fun anR=>
                (C bZ [.int .i64 aw,.int .i64 az,.list ag ar,.list ai ay,.str ((V.nth r2 0).toStr)]).bind fun anS=>
                bif !(((V.nth anR 0).toBool)==((V.nth anS 0).toBool)) then
                 some [.bool false]
                else
                 (C bU []).bind fun anT=>
                 some [.bool ((V.nth anT 0).toBool)]
               else none
              else none
              else
              bif Nat.ble (((V.nth r1 0).toStr).length+((V.nth r3 0).toStr).length) aB then
               (C ax [.int .i64 ((V.nth ao 0).toInt),.int .i64 ((V.nth (ao.drop 1) 0).toInt),.list ag ((V.nth (ao.drop 3) 0).toList),.list ai ((V.nth ((ao.drop 3).drop 1) 0).toList),.str (((V.nth r1 0).toStr)++((V.nth r3 0).toStr))]).bind fun anU=>
               bif (V.nth anU 0).toBool then
               bif Nat.ble (((V.nth r1 0).toStr).length+((V.nth r2 0).toStr).length) aB then
                bif Nat.ble ((((V.nth r1 0).toStr)++((V.nth r2 0).toStr)).length+((V.nth r3 0).toStr).length) aB then
                (C ax [.int .i64 ((V.nth ao 0).toInt),.int .i64 ((V.nth (ao.drop 1) 0).toInt),.list ag ((V.nth (ao.drop 3) 0).toList),.list ai ((V.nth ((ao.drop 3).drop 1) 0).toList),.str ((((V.nth r1 0).toStr)++((V.nth r2 0).toStr))++((V.nth r3 0).toStr))]).bind fun anV=>
                bif !((V.nth anV 0).toBool) then
                 some [.bool false]
                else
                 (C ax [.int .i64 ((V.nth r8 0).toInt),.int .i64 ((V.nth (r8.drop 1) 0).toInt),.list ag ((V.nth (r8.drop 3) 0).toList),.list ai ((V.nth ((r8.drop 3).drop 1) 0).toList),.str ((V.nth r2 0).toStr)]).bind fun anW=>
                 (C bZ [.int .i64 aw,.int .i64 az,.list ag ar,.list ai ay,.str ((V.nth r2 0).toStr)]).bind fun anX=>
                 bif !(((V.nth anW 0).toBool)==((V.nth anX 0).toBool)) then
                 some [.bool false]
                 else
                 (C bU []).bind fun anY=>
                 some [.bool ((V.nth anY 0).toBool)]
                else none
               else none
               else
               (C ax [.int .i64 ((V.nth r8 0).toInt),.int .i64 ((V.nth (r8.drop 1) 0).toInt),.list ag ((V.nth (r8.drop 3) 0).toList),.list ai ((V.nth ((r8.drop 3).drop 1) 0).toList),.str ((V.nth r2 0).toStr)]).bind fun anZ=>
               (C bZ [.int .i64 aw,.int .i64 az,.list ag ar,.list ai ay,.str ((V.nth r2 0).toStr)]).bind fun an0=>
               bif !(((V.nth anZ 0).toBool)==((V.nth an0 0).toBool)) then
                some [.bool false]
               else
                (C bU []).bind fun an1=>
                some [.bool ((V.nth an1 0).toBool)]
              else none
             else none
             else none
            else none
           else none
          else
           bif Nat.ble (((V.nth r1 0).toStr).length+((V.nth r2 0).toStr).length) aB then
           bif Nat.ble ((((V.nth r1 0).toStr)++((V.nth r2 0).toStr)).length+((V.nth r3 0).toStr).length) aB then
            (C ax [.int .i64 ((V.nth bW 0).toInt),.int .i64 ((V.nth (bW.drop 1) 0).toInt),.list ag ((V.nth (bW.drop 3) 0).toList),.list ai ((V.nth ((bW.drop 3).drop 1) 0).toList),.str ((((V.nth r1 0).toStr)++((V.nth r2 0).toStr))++((V.nth r3 0).toStr))]).bind fun an2=>
            bif (V.nth an2 0).toBool then
            (C ax [.int .i64 ((V.nth bW 0).toInt),.int .i64 ((V.nth (bW.drop 1) 0).toInt),.list ag ((V.nth (bW.drop 3) 0).toList),.list ai ((V.nth ((bW.drop 3).drop 1) 0).toList),.str ((V.nth r2 0).toStr)]).bind fun an3=>
            bif !((V.nth an3 0).toBool) then
             some [.bool false]
            else
             bif Nat.ble (((V.nth r1 0).toStr).length+((V.nth r2 0).toStr).length) aB then
             bif Nat.ble ((((V.nth r1 0).toStr)++((V.nth r2 0).toStr)).length+((V.nth r3 0).toStr).length) aB then
              (C ax [.int .i64 ((V.nth aO 0).toInt),.int .i64 ((V.nth (aO.drop 1) 0).toInt),.list ag ((V.nth (aO.drop 3) 0).toList),.list ai ((V.nth ((aO.drop 3).drop 1) 0).toList),.str ((((V.nth r1 0).toStr)++((V.nth r2 0).toStr))++((V.nth r3 0).toStr))]).bind fun an4=>
              bif (V.nth an4 0).toBool then
              bif Nat.ble (((V.nth r1 0).toStr).length+((V.nth r3 0).toStr).length) aB then
               (C ax [.int .i64 ((V.nth aO 0).toInt),.int .i64 ((V.nth (aO.drop 1) 0).toInt),.list ag ((V.nth (aO.drop 3) 0).toList),.list ai ((V.nth ((aO.drop 3).drop 1) 0).toList),.str (((V.nth r1 0).toStr)++((V.nth r3 0).toStr))]).bind fun an5=>
               bif !((V.nth an5 0).toBool) then
               some [.bool false]
               else
               bif Nat.ble (((V.nth r1 0).toStr).length+((V.nth r3 0).toStr).length) aB then
                (C ax [.int .i64 ((V.nth ao 0).toInt),.int .i64 ((V.nth (ao.drop 1) 0).toInt),.list ag ((V.nth (ao.drop 3) 0).toList),.list ai ((V.nth ((ao.drop 3).drop 1) 0).toList),.str (((V.nth r1 0).toStr)++((V.nth r3 0).toStr))]).bind fun an6=>
                bif (V.nth an6 0).toBool then
                bif Nat.ble (((V.nth r1 0).toStr).length+((V.nth r2 0).toStr).length) aB then
                 bif Nat.ble ((((V.nth r1 0).toStr)++((V.nth r2 0).toStr)).length+((V.nth r3 0).toStr).length) aB then
                 (C ax [.int .i64 ((V.nth ao 0).toInt),.int .i64 ((V.nth (ao.drop 1) 0).toInt),.list ag ((V.nth (ao.drop 3) 0).toList),.list ai ((V.nth ((ao.drop 3).drop 1) 0).toList),.str ((((V.nth r1 0).toStr)++((V.nth r2 0).toStr))++((V.nth r3 0).toStr))]).bind fun an7=>
                 bif !((V.nth an7 0).toBool) then
                  some [.bool false]
                 else
                  (C ax [.int .i64 ((V.nth r8 0).toInt),.int .i64 ((V.nth (r8.drop 1) 0).toInt),.list ag ((V.nth (r8.drop 3) 0).toList),.list ai ((V.nth ((r8.drop 3).drop 1) 0).toList),.str ((V.nth r2 0).toStr)]).bind fun an8=>
                  (C bZ [.int .i64 aw,.int .i64 az,.list ag ar,.list ai ay,.str ((V.nth r2 0).toStr)]).bind fun an9=>
                  bif !(((V.nth an8 0).toBool)==((V.nth an9 0).toBool)) then
                  some [.bool false]
                  else
                  (C bU []).bind fun aoa=>
                  some [.bool ((V.nth aoa 0).toBool)]
                 else none
                else none
                else
                (C ax [.int .i64 ((V.nth r8 0).toInt),.int .i64 ((V.nth (r8.drop 1) 0).toInt),.list ag ((V.nth (r8.drop 3) 0).toList),.list ai ((V.nth ((r8.drop 3).drop 1) 0).toList),.str ((V.nth r2 0).toStr)]).bind fun aob=>
                (C bZ [.int .i64 aw,.int .i64 az,.list ag ar,.list ai ay,.str ((V.nth r2 0).toStr)]).bind fun aoc=>
                bif !(((V.nth aob 0).toBool)==((V.nth aoc 0).toBool)) then
                 some [.bool false]
                else
                 (C bU []).bind fun aod=>
                 some [.bool ((V.nth aod 0).toBool)]
               else none
              else none
              else
              bif Nat.ble (((V.nth r1 0).toStr).length+((V.nth r3 0).toStr).length) aB then
               (C ax [.int .i64 ((V.nth ao 0).toInt),.int .i64 ((V.nth (ao.drop 1) 0).toInt),.list ag ((V.nth (ao.drop 3) 0).toList),.list ai ((V.nth ((ao.drop 3).drop 1) 0).toList),.str (((V.nth r1 0).toStr)++((V.nth r3 0).toStr))]).bind fun aoe=>
               bif (V.nth aoe 0).toBool then
               bif Nat.ble (((V.nth r1 0).toStr).length+((V.nth r2 0).toStr).length) aB then
                bif Nat.ble ((((V.nth r1 0).toStr)++((V.nth r2 0).toStr)).length+((V.nth r3 0).toStr).length) aB then
                (C ax [.int .i64 ((V.nth ao 0).toInt),.int .i64 ((V.nth (ao.drop 1) 0).toInt),.list ag ((V.nth (ao.drop 3) 0).toList),.list ai ((V.nth ((ao.drop 3).drop 1) 0).toList),.str ((((V.nth r1 0).toStr)++((V.nth r2 0).toStr))++((V.nth r3 0).toStr))]).bind fun aof=>
                bif !((V.nth aof 0).toBool) then
                 some [.bool false]
                else
                 (C ax [.int .i64 ((V.nth r8 0).toInt),.int .i64 ((V.nth (r8.drop 1) 0).toInt),.list ag ((V.nth (r8.drop 3) 0).toList),.list ai ((V.nth ((r8.drop 3).drop 1) 0).toList),.str ((V.nth r2 0).toStr)]).bind fun aog=>
                 (C bZ [.int .i64 aw,.int .i64 az,.list ag ar,.list ai ay,.str ((V.nth r2 0).toStr)]).bind fun aoh=>
                 bif !(((V.nth aog 0).toBool)==((V.nth aoh 0).toBool)) then
                 some [.bool false]
                 else
                 (C bU []).bind fun aoi=>
                 some [.bool ((V.nth aoi 0).toBool)]
                else none
               else none
               else
               (C ax [.int .i64 ((V.nth r8 0).toInt),.int .i64 ((V.nth (r8.drop 1) 0).toInt),.list ag ((V.nth (r8.drop 3) 0).toList),.list ai ((V.nth ((r8.drop 3).drop 1) 0).toList),.str ((V.nth r2 0).toStr)]).bind fun aoj=>
               (C bZ [.int .i64 aw,.int .i64 az,.list ag ar,.list ai ay,.str ((V.nth r2 0).toStr)]).bind fun aok=>
               bif !(((V.nth aoj 0).toBool)==((V.nth aok 0).toBool)) then
                some [.bool false]
               else
                (C bU []).bind fun aol=>
                some [.bool ((V.nth aol 0).toBool)]
              else none
             else none
             else none
            else
            bif Nat.ble (((V.nth r1 0).toStr).length+((V.nth r2 0).toStr).length) aB then
             bif Nat.ble ((((V.nth r1 0).toStr)++((V.nth r2 0).toStr)).length+((V.nth r3 0).toStr).length) aB then
             (C ax [.int .i64 ((V.nth aO 0).toInt),.int .i64 ((V.nth (aO.drop 1) 0).toInt),.list ag ((V.nth (aO.drop 3) 0).toList),.list ai ((V.nth ((aO.drop 3).drop 1) 0).toList),.str ((((V.nth r1 0).toStr)++((V.nth r2 0).toStr))++((V.nth r3 0).toStr))]).bind fun aom=>
             bif (V.nth aom 0).toBool then
              bif Nat.ble (((V.nth r1 0).toStr).length+((V.nth r3 0).toStr).length) aB then
              (C ax [.int .i64 ((V.nth aO 0).toInt),.int .i64 ((V.nth (aO.drop 1) 0).toInt),.list ag ((V.nth (aO.drop 3) 0).toList),.list ai ((V.nth ((aO.drop 3).drop 1) 0).toList),.str (((V.nth r1 0).toStr)++((V.nth r3 0).toStr))]).bind fun aon=>
              bif !((V.nth aon 0).toBool) then
               some [.bool false]
              else
               bif Nat.ble (((V.nth r1 0).toStr).length+((V.nth r3 0).toStr).length) aB then
               (C ax [.int .i64 ((V.nth ao 0).toInt),.int .i64 ((V.nth (ao.drop 1) 0).toInt),.list ag ((V.nth (ao.drop 3) 0).toList),.list ai ((V.nth ((ao.drop 3).drop 1) 0).toList),.str (((V.nth r1 0).toStr)++((V.nth r3 0).toStr))]).bind fun aoo=>
               bif (V.nth aoo 0).toBool then
                bif Nat.ble (((V.nth r1 0).toStr).length+((V.nth r2 0).toStr).length) aB then
                bif Nat.ble ((((V.nth r1 0).toStr)++((V.nth r2 0).toStr)).length+((V.nth r3 0).toStr).length) aB then
                 (C ax [.int .i64 ((V.nth ao 0).toInt),.int .i64 ((V.nth (ao.drop 1) 0).toInt),.list ag ((V.nth (ao.drop 3) 0).toList),.list ai ((V.nth ((ao.drop 3).drop 1) 0).toList),.str ((((V.nth r1 0).toStr)++((V.nth r2 0).toStr))++((V.nth r3 0).toStr))]).bind fun aop=>
                 bif !((V.nth aop 0).toBool) then
                 some [.bool false]
                 else
                 (C ax [.int .i64 ((V.nth r8 0).toInt),.int .i64 ((V.nth (r8.drop 1) 0).toInt),.list ag ((V.nth (r8.drop 3) 0).toList),.list ai ((V.nth ((r8.drop 3).drop 1) 0).toList),.str ((V.nth r2 0).toStr)]).bind fun aoq=>
                 (C bZ [.int .i64 aw,.int .i64 az,.list ag ar,.list ai ay,.str ((V.nth r2 0).toStr)]).bind fun aor=>
                 bif !(((V.nth aoq 0).toBool)==((V.nth aor 0).toBool)) then
                  some [.bool false]
                 else
                  (C bU []).bind fun aos=>
                  some [.bool ((V.nth aos 0).toBool)]
                else none
                else none
               else
                (C ax [.int .i64 ((V.nth r8 0).toInt),.int .i64 ((V.nth (r8.drop 1) 0).toInt),.list ag ((V.nth (r8.drop 3) 0).toList),.list ai ((V.nth ((r8.drop 3).drop 1) 0).toList),.str ((V.nth r2 0).toStr)]).bind fun aot=>
                (C bZ [.int .i64 aw,.int .i64 az,.list ag ar,.list ai ay,.str ((V.nth r2 0).toStr)]).bind fun aou=>
                bif !(((V.nth aot 0).toBool)==((V.nth aou 0).toBool)) then
                some [.bool false]
                else
                (C bU []).bind fun aov=>
                some [.bool ((V.nth aov 0).toBool)]
               else none
              else none
             else
              bif Nat.ble (((V.nth r1 0).toStr).length+((V.nth r3 0).toStr).length) aB then
              (C ax [.int .i64 ((V.nth ao 0).toInt),.int .i64 ((V.nth (ao.drop 1) 0).toInt),.list ag ((V.nth (ao.drop 3) 0).toList),.list ai ((V.nth ((ao.drop 3).drop 1) 0).toList),.str (((V.nth r1 0).toStr)++((V.nth r3 0).toStr))]).bind fun aow=>
              bif (V.nth aow 0).toBool then
               bif Nat.ble (((V.nth r1 0).toStr).length+((V.nth r2 0).toStr).length) aB then
               bif Nat.ble ((((V.nth r1 0).toStr)++((V.nth r2 0).toStr)).length+((V.nth r3 0).toStr).length) aB then
                (C ax [.int .i64 ((V.nth ao 0).toInt),.int .i64 ((V.nth (ao.drop 1) 0).toInt),.list ag ((V.nth (ao.drop 3) 0).toList),.list ai ((V.nth ((ao.drop 3).drop 1) 0).toList),.str ((((V.nth r1 0).toStr)++((V.nth r2 0).toStr))++((V.nth r3 0).toStr))]).bind fun aox=>
                bif !((V.nth aox 0).toBool) then
                some [.bool false]
                else
                (C ax [.int .i64 ((V.nth r8 0).toInt),.int .i64 ((V.nth (r8.drop 1) 0).toInt),.list ag ((V.nth (r8.drop 3) 0).toList),.list ai ((V.nth ((r8.drop 3).drop 1) 0).toList),.str ((V.nth r2 0).toStr)]).bind fun aoy=>
                (C bZ [.int .i64 aw,.int .i64 az,.list ag ar,.list ai ay,.str ((V.nth r2 0).toStr)]).bind fun aoz=>
                bif !(((V.nth aoy 0).toBool)==((V.nth aoz 0).toBool)) then
                 some [.bool false]
                else
                 (C bU []).bind fun aoA=>
                 some [.bool ((V.nth aoA 0).toBool)]
               else none
               else none
              else
               (C ax [.int .i64 ((V.nth r8 0).toInt),.int .i64 ((V.nth (r8.drop 1) 0).toInt),.list ag ((V.nth (r8.drop 3) 0).toList),.list ai ((V.nth ((r8.drop 3).drop 1) 0).toList),.str ((V.nth r2 0).toStr)]).bind fun aoB=>
               (C bZ [.int .i64 aw,.int .i64 az,.list ag ar,.list ai ay,.str ((V.nth r2 0).toStr)]).bind fun aoC=>
               bif !(((V.nth aoB 0).toBool)==((V.nth aoC 0).toBool)) then
               some [.bool false]
               else
               (C bU []).bind fun aoD=>
               some [.bool ((V.nth aoD 0).toBool)]
              else none
             else none
            else none
           else none
           else none
          else none
         else none
        else none
        else
        bif Nat.ble (((V.nth r1 0).toStr).length+((V.nth r2 0).toStr).length) aB then
         (C ax [.int .i64 ((V.nth r8 0).toInt),.int .i64 ((V.nth (r8.drop 1) 0).toInt),.list ag ((V.nth (r8.drop 3) 0).toList),.list ai ((V.nth ((r8.drop 3).drop 1) 0).toList),.str (((V.nth r1 0).toStr)++((V.nth r2 0).toStr))]).bind fun aoE=>
         bif (V.nth aoE 0).toBool then
         (C ax [.int .i64 ((V.nth r8 0).toInt),.int .i64 ((V.nth (r8.drop 1) 0).toInt),.list ag ((V.nth (r8.drop 3) 0).toList),.list ai ((V.nth ((r8.drop 3).drop 1) 0).toList),.str ((V.nth r1 0).toStr)]).bind fun aoF=>
         bif !((V.nth aoF 0).toBool) then
          some [.bool false]
         else
          bif Nat.ble (((V.nth r1 0).toStr).length+((V.nth r2 0).toStr).length) aB then
          bif Nat.ble ((((V.nth r1 0).toStr)++((V.nth r2 0).toStr)).length+((V.nth r3 0).toStr).length) aB then
           (C ax [.int .i64 ((V.nth bW 0).toInt),.int .i64 ((V.nth (bW.drop 1) 0).toInt),.list ag ((V.nth (bW.drop 3) 0).toList),.list ai ((V.nth ((bW.drop 3).drop 1) 0).toList),.str ((((V.nth r1 0).toStr)++((V.nth r2 0).toStr))++((V.nth r3 0).toStr))]).bind fun aoG=>
           bif (V.nth aoG 0).toBool then
           (C ax [.int .i64 ((V.nth bW 0).toInt),.int .i64 ((V.nth (bW.drop 1) 0).toInt),.list ag ((V.nth (bW.drop 3) 0).toList),.list ai ((V.nth ((bW.drop 3).drop 1) 0).toList),.str ((V.nth r2 0).toStr)]).bind fun aoH=>
           bif !((V.nth aoH 0).toBool) then
            some [.bool false]
           else
            bif Nat.ble (((V.nth r1 0).toStr).length+((V.nth r2 0).toStr).length) aB then
            bif Nat.ble ((((V.nth r1 0).toStr)++((V.nth r2 0).toStr)).length+((V.nth r3 0).toStr).length) aB then
             (C ax [.int .i64 ((V.nth aO 0).toInt),.int .i64 ((V.nth (aO.drop 1) 0).toInt),.list ag ((V.nth (aO.drop 3) 0).toList),.list ai ((V.nth ((aO.drop 3).drop 1) 0).toList),.str ((((V.nth r1 0).toStr)++((V.nth r2 0).toStr))++((V.nth r3 0).toStr))]).bind fun aoI=>
             bif (V.nth aoI 0).toBool then
             bif Nat.ble (((V.nth r1 0).toStr).length+((V.nth r3 0).toStr).length) aB then
              (C ax [.int .i64 ((V.nth aO 0).toInt),.int .i64 ((V.nth (aO.drop 1) 0).toInt),.list ag ((V.nth (aO.drop 3) 0).toList),.list ai ((V.nth ((aO.drop 3).drop 1) 0).toList),.str (((V.nth r1 0).toStr)++((V.nth r3 0).toStr))]).bind fun aoJ=>
              bif !((V.nth aoJ 0).toBool) then
              some [.bool false]
              else
              bif Nat.ble (((V.nth r1 0).toStr).length+((V.nth r3 0).toStr).length) aB then
               (C ax [.int .i64 ((V.nth ao 0).toInt),.int .i64 ((V.nth (ao.drop 1) 0).toInt),.list ag ((V.nth (ao.drop 3) 0).toList),.list ai ((V.nth ((ao.drop 3).drop 1) 0).toList),.str (((V.nth r1 0).toStr)++((V.nth r3 0).toStr))]).bind fun aoK=>
               bif (V.nth aoK 0).toBool then
               bif Nat.ble (((V.nth r1 0).toStr).length+((V.nth r2 0).toStr).length) aB then
                bif Nat.ble ((((V.nth r1 0).toStr)++((V.nth r2 0).toStr)).length+((V.nth r3 0).toStr).length) aB then
                (C ax [.int .i64 ((V.nth ao 0).toInt),.int .i64 ((V.nth (ao.drop 1) 0).toInt),.list ag ((V.nth (ao.drop 3) 0).toList),.list ai ((V.nth ((ao.drop 3).drop 1) 0).toList),.str ((((V.nth r1 0).toStr)++((V.nth r2 0).toStr))++((V.nth r3 0).toStr))]).bind fun aoL=>
                bif !((V.nth aoL 0).toBool) then
                 some [.bool false]
                else
                 (C ax [.int .i64 ((V.nth r8 0).toInt),.int .i64 ((V.nth (r8.drop 1) 0).toInt),.list ag ((V.nth (r8.drop 3) 0).toList),.list ai ((V.nth ((r8.drop 3).drop 1) 0).toList),.str ((V.nth r2 0).toStr)]).bind fun aoM=>
                 (C bZ [.int .i64 aw,.int .i64 az,.list ag ar,.list ai ay,.str ((V.nth r2 0).toStr)]).bind fun aoN=>
                 bif !(((V.nth aoM 0).toBool)==((V.nth aoN 0).toBool)) then
                 some [.bool false]
                 else
                 (C bU []).bind fun aoO=>
                 some [.bool ((V.nth aoO 0).toBool)]
                else none
               else none
               else
               (C ax [.int .i64 ((V.nth r8 0).toInt),.int .i64 ((V.nth (r8.drop 1) 0).toInt),.list ag ((V.nth (r8.drop 3) 0).toList),.list ai ((V.nth ((r8.drop 3).drop 1) 0).toList),.str ((V.nth r2 0).toStr)]).bind fun aoP=>
               (C bZ [.int .i64 aw,.int .i64 az,.list ag ar,.list ai ay,.str ((V.nth r2 0).toStr)]).bind fun aoQ=>
               bif !(((V.nth aoP 0).toBool)==((V.nth aoQ 0).toBool)) then
                some [.bool false]
               else
                (C bU []).bind fun aoR=>
                some [.bool ((V.nth aoR 0).toBool)]
              else none
             else none
             else
             bif Nat.ble (((V.nth r1 0).toStr).length+((V.nth r3 0).toStr).length) aB then
              (C ax [.int .i64 ((V.nth ao 0).toInt),.int .i64 ((V.nth (ao.drop 1) 0).toInt),.list ag ((V.nth (ao.drop 3) 0).toList),.list ai ((V.nth ((ao.drop 3).drop 1) 0).toList),.str (((V.nth r1 0).toStr)++((V.nth r3 0).toStr))]).bind fun aoS=>
              bif (V.nth aoS 0).toBool then
              bif Nat.ble (((V.nth r1 0).toStr).length+((V.nth r2 0).toStr).length) aB then
               bif Nat.ble ((((V.nth r1 0).toStr)++((V.nth r2 0).toStr)).length+((V.nth r3 0).toStr).length) aB then
               (C ax [.int .i64 ((V.nth ao 0).toInt),.int .i64 ((V.nth (ao.drop 1) 0).toInt),.list ag ((V.nth (ao.drop 3) 0).toList),.list ai ((V.nth ((ao.drop 3).drop 1) 0).toList),.str ((((V.nth r1 0).toStr)++((V.nth r2 0).toStr))++((V.nth r3 0).toStr))]).bind fun aoT=>
               bif !((V.nth aoT 0).toBool) then
                some [.bool false]
               else
                (C ax [.int .i64 ((V.nth r8 0).toInt),.int .i64 ((V.nth (r8.drop 1) 0).toInt),.list ag ((V.nth (r8.drop 3) 0).toList),.list ai ((V.nth ((r8.drop 3).drop 1) 0).toList),.str ((V.nth r2 0).toStr)]).bind fun aoU=>
                (C bZ [.int .i64 aw,.int .i64 az,.list ag ar,.list ai ay,.str ((V.nth r2 0).toStr)]).bind fun aoV=>
                bif !(((V.nth aoU 0).toBool)==((V.nth aoV 0).toBool)) then
                some [.bool false]
                else
                (C bU []).bind fun aoW=>
                some [.bool ((V.nth aoW 0).toBool)]
               else none
              else none
              else
              (C ax [.int .i64 ((V.nth r8 0).toInt),.int .i64 ((V.nth (r8.drop 1) 0).toInt),.list ag ((V.nth (r8.drop 3) 0).toList),.list ai ((V.nth ((r8.drop 3).drop 1) 0).toList),.str ((V.nth r2 0).toStr)]).bind fun aoX=>
              (C bZ [.int .i64 aw,.int .i64 az,.list ag ar,.list ai ay,.str ((V.nth r2 0).toStr)]).bind fun aoY=>
              bif !(((V.nth aoX 0).toBool)==((V.nth aoY 0).toBool)) then
               some [.bool false]
              else
               (C bU []).bind fun aoZ=>
               some [.bool ((V.nth aoZ 0).toBool)]
             else none
            else none
            else none
           else
           bif Nat.ble (((V.nth r1 0).toStr).length+((V.nth r2 0).toStr).length) aB then
            bif Nat.ble ((((V.nth r1 0).toStr)++((V.nth r2 0).toStr)).length+((V.nth r3 0).toStr).length) aB then
            (C ax [.int .i64 ((V.nth aO 0).toInt),.int .i64 ((V.nth (aO.drop 1) 0).toInt),.list ag ((V.nth (aO.drop 3) 0).toList),.list ai ((V.nth ((aO.drop 3).drop 1) 0).toList),.str ((((V.nth r1 0).toStr)++((V.nth r2 0).toStr))++((V.nth r3 0).toStr))]).bind fun ao0=>
            bif (V.nth ao0 0).toBool then
             bif Nat.ble (((V.nth r1 0).toStr).length+((V.nth r3 0).toStr).length) aB then
             (C ax [.int .i64 ((V.nth aO 0).toInt),.int .i64 ((V.nth (aO.drop 1) 0).toInt),.list ag ((V.nth (aO.drop 3) 0).toList),.list ai ((V.nth ((aO.drop 3).drop 1) 0).toList),.str (((V.nth r1 0).toStr)++((V.nth r3 0).toStr))]).bind fun ao1=>
             bif !((V.nth ao1 0).toBool) then
              some [.bool false]
             else
              bif Nat.ble (((V.nth r1 0).toStr).length+((V.nth r3 0).toStr).length) aB then
              (C ax [.int .i64 ((V.nth ao 0).toInt),.int .i64 ((V.nth (ao.drop 1) 0).toInt),.list ag ((V.nth (ao.drop 3) 0).toList),.list ai ((V.nth ((ao.drop 3).drop 1) 0).toList),.str (((V.nth r1 0).toStr)++((V.nth r3 0).toStr))]).bind fun ao2=>
              bif (V.nth ao2 0).toBool then
               bif Nat.ble (((V.nth r1 0).toStr).length+((V.nth r2 0).toStr).length) aB then
               bif Nat.ble ((((V.nth r1 0).toStr)++((V.nth r2 0).toStr)).length+((V.nth r3 0).toStr).length) aB then
                (C ax [.int .i64 ((V.nth ao 0).toInt),.int .i64 ((V.nth (ao.drop 1) 0).toInt),.list ag ((V.nth (ao.drop 3) 0).toList),.list ai ((V.nth ((ao.drop 3).drop 1) 0).toList),.str ((((V.nth r1 0).toStr)++((V.nth r2 0).toStr))++((V.nth r3 0).toStr))]).bind fun ao3=>
                bif !((V.nth ao3 0).toBool) then
                some [.bool false]
                else
                (C ax [.int .i64 ((V.nth r8 0).toInt),.int .i64 ((V.nth (r8.drop 1) 0).toInt),.list ag ((V.nth (r8.drop 3) 0).toList),.list ai ((V.nth ((r8.drop 3).drop 1) 0).toList),.str ((V.nth r2 0).toStr)]).bind fun ao4=>
                (C bZ [.int .i64 aw,.int .i64 az,.list ag ar,.list ai ay,.str ((V.nth r2 0).toStr)]).bind fun ao5=>
                bif !(((V.nth ao4 0).toBool)==((V.nth ao5 0).toBool)) then
                 some [.bool false]
                else
                 (C bU []).bind fun ao6=>
                 some [.bool ((V.nth ao6 0).toBool)]
               else none
               else none
              else
               (C ax [.int .i64 ((V.nth r8 0).toInt),.int .i64 ((V.nth (r8.drop 1) 0).toInt),.list ag ((V.nth (r8.drop 3) 0).toList),.list ai ((V.nth ((r8.drop 3).drop 1) 0).toList),.str ((V.nth r2 0).toStr)]).bind fun ao7=>
               (C bZ [.int .i64 aw,.int .i64 az,.list ag ar,.list ai ay,.str ((V.nth r2 0).toStr)]).bind fun ao8=>
               bif !(((V.nth ao7 0).toBool)==((V.nth ao8 0).toBool)) then
               some [.bool false]
               else
               (C bU []).bind fun ao9=>
               some [.bool ((V.nth ao9 0).toBool)]
              else none
             else none
            else
             bif Nat.ble (((V.nth r1 0).toStr).length+((V.nth r3 0).toStr).length) aB then
             (C ax [.int .i64 ((V.nth ao 0).toInt),.int .i64 ((V.nth (ao.drop 1) 0).toInt),.list ag ((V.nth (ao.drop 3) 0).toList),.list ai ((V.nth ((ao.drop 3).drop 1) 0).toList),.str (((V.nth r1 0).toStr)++((V.nth r3 0).toStr))]).bind fun apa=>
             bif (V.nth apa 0).toBool then
              bif Nat.ble (((V.nth r1 0).toStr).length+((V.nth r2 0).toStr).length) aB then
              bif Nat.ble ((((V.nth r1 0).toStr)++((V.nth r2 0).toStr)).length+((V.nth r3 0).toStr).length) aB then
               (C ax [.int .i64 ((V.nth ao 0).toInt),.int .i64 ((V.nth (ao.drop 1) 0).toInt),.list ag ((V.nth (ao.drop 3) 0).toList),.list ai ((V.nth ((ao.drop 3).drop 1) 0).toList),.str ((((V.nth r1 0).toStr)++((V.nth r2 0).toStr))++((V.nth r3 0).toStr))]).bind fun apb=>
               bif !((V.nth apb 0).toBool) then
               some [.bool false]
               else
               (C ax [.int .i64 ((V.nth r8 0).toInt),.int .i64 ((V.nth (r8.drop 1) 0).toInt),.list ag ((V.nth (r8.drop 3) 0).toList),.list ai ((V.nth ((r8.drop 3).drop 1) 0).toList),.str ((V.nth r2 0).toStr)]).bind fun apc=>
               (C bZ [.int .i64 aw,.int .i64 az,.list ag ar,.list ai ay,.str ((V.nth r2 0).toStr)]).bind fun apd=>
               bif !(((V.nth apc 0).toBool)==((V.nth apd 0).toBool)) then
                some [.bool false]
               else
                (C bU []).bind fun ape=>
                some [.bool ((V.nth ape 0).toBool)]
              else none
              else none
             else
              (C ax [.int .i64 ((V.nth r8 0).toInt),.int .i64 ((V.nth (r8.drop 1) 0).toInt),.list ag ((V.nth (r8.drop 3) 0).toList),.list ai ((V.nth ((r8.drop 3).drop 1) 0).toList),.str ((V.nth r2 0).toStr)]).bind fun apf=>
              (C bZ [.int .i64 aw,.int .i64 az,.list ag ar,.list ai ay,.str ((V.nth r2 0).toStr)]).bind fun apg=>
              bif !(((V.nth apf 0).toBool)==((V.nth apg 0).toBool)) then
              some [.bool false]
              else
              (C bU []).bind fun aph=>
              some [.bool ((V.nth aph 0).toBool)]
             else none
            else none
           else none
          else none
          else none
         else
         bif Nat.ble (((V.nth r1 0).toStr).length+((V.nth r2 0).toStr).length) aB then
          bif Nat.ble ((((V.nth r1 0).toStr)++((V.nth r2 0).toStr)).length+((V.nth r3 0).toStr).length) aB then
          (C ax [.int .i64 ((V.nth bW 0).toInt),.int .i64 ((V.nth (bW.drop 1) 0).toInt),.list ag ((V.nth (bW.drop 3) 0).toList),.list ai ((V.nth ((bW.drop 3).drop 1) 0).toList),.str ((((V.nth r1 0).toStr)++((V.nth r2 0).toStr))++((V.nth r3 0).toStr))]).bind fun api=>
          bif (V.nth api 0).toBool then
           (C ax [.int .i64 ((V.nth bW 0).toInt),.int .i64 ((V.nth (bW.drop 1) 0).toInt),.list ag ((V.nth (bW.drop 3) 0).toList),.list ai ((V.nth ((bW.drop 3).drop 1) 0).toList),.str ((V.nth r2 0).toStr)]).bind fun apj=>
           bif !((V.nth apj 0).toBool) then
           some [.bool false]
           else
           bif Nat.ble (((V.nth r1 0).toStr).length+((V.nth r2 0).toStr).length) aB then
            bif Nat.ble ((((V.nth r1 0).toStr)++((V.nth r2 0).toStr)).length+((V.nth r3 0).toStr).length) aB then
            (C ax [.int .i64 ((V.nth aO 0).toInt),.int .i64 ((V.nth (aO.drop 1) 0).toInt),.list ag ((V.nth (aO.drop 3) 0).toList),.list ai ((V.nth ((aO.drop 3).drop 1) 0).toList),.str ((((V.nth r1 0).toStr)++((V.nth r2 0).toStr))++((V.nth r3 0).toStr))]).bind fun apk=>
            bif (V.nth apk 0).toBool then
             bif Nat.ble (((V.nth r1 0).toStr).length+((V.nth r3 0).toStr).length) aB then
             (C ax [.int .i64 ((V.nth aO 0).toInt),.int .i64 ((V.nth (aO.drop 1) 0).toInt),.list ag ((V.nth (aO.drop 3) 0).toList),.list ai ((V.nth ((aO.drop 3).drop 1) 0).toList),.str (((V.nth r1 0).toStr)++((V.nth r3 0).toStr))]).bind fun apl=>
             bif !((V.nth apl 0).toBool) then
              some [.bool false]
             else
              bif Nat.ble (((V.nth r1 0).toStr).length+((V.nth r3 0).toStr).length) aB then
              (C ax [.int .i64 ((V.nth ao 0).toInt),.int .i64 ((V.nth (ao.drop 1) 0).toInt),.list ag ((V.nth (ao.drop 3) 0).toList),.list ai ((V.nth ((ao.drop 3).drop 1) 0).toList),.str (((V.nth r1 0).toStr)++((V.nth r3 0).toStr))]).bind fun apm=>
              bif (V.nth apm 0).toBool then
               bif Nat.ble (((V.nth r1 0).toStr).length+((V.nth r2 0).toStr).length) aB then
               bif Nat.ble ((((V.nth r1 0).toStr)++((V.nth r2 0).toStr)).length+((V.nth r3 0).toStr).length) aB then
                (C ax [.int .i64 ((V.nth ao 0).toInt),.int .i64 ((V.nth (ao.drop 1) 0).toInt),.list ag ((V.nth (ao.drop 3) 0).toList),.list ai ((V.nth ((ao.drop 3).drop 1) 0).toList),.str ((((V.nth r1 0).toStr)++((V.nth r2 0).toStr))++((V.nth r3 0).toStr))]).bind fun apn=>
                bif !((V.nth apn 0).toBool) then
                some [.bool false]
                else
                (C ax [.int .i64 ((V.nth r8 0).toInt),.int .i64 ((V.nth (r8.drop 1) 0).toInt),.list ag ((V.nth (r8.drop 3) 0).toList),.list ai ((V.nth ((r8.drop 3).drop 1) 0).toList),.str ((V.nth r2 0).toStr)]).bind fun apo=>
                (C bZ [.int .i64 aw,.int .i64 az,.list ag ar,.list ai ay,.str ((V.nth r2 0).toStr)]).bind fun apq=>
                bif !(((V.nth apo 0).toBool)==((V.nth apq 0).toBool)) then
                 some [.bool false]
                else
                 (C bU []).bind fun apr=>
                 some [.bool ((V.nth apr 0).toBool)]
               else none
               else none
              else
               (C ax [.int .i64 ((V.nth r8 0).toInt),.int .i64 ((V.nth (r8.drop 1) 0).toInt),.list ag ((V.nth (r8.drop 3) 0).toList),.list ai ((V.nth ((r8.drop 3).drop 1) 0).toList),.str ((V.nth r2 0).toStr)]).bind fun aps=>
               (C bZ [.int .i64 aw,.int .i64 az,.list ag ar,.list ai ay,.str ((V.nth r2 0).toStr)]).bind fun apt=>
               bif !(((V.nth aps 0).toBool)==((V.nth apt 0).toBool)) then
               some [.bool false]
               else
               (C bU []).bind fun apu=>
               some [.bool ((V.nth apu 0).toBool)]
              else none
             else none
            else
             bif Nat.ble (((V.nth r1 0).toStr).length+((V.nth r3 0).toStr).length) aB then
             (C ax [.int .i64 ((V.nth ao 0).toInt),.int .i64 ((V.nth (ao.drop 1) 0).toInt),.list ag ((V.nth (ao.drop 3) 0).toList),.list ai ((V.nth ((ao.drop 3).drop 1) 0).toList),.str (((V.nth r1 0).toStr)++((V.nth r3 0).toStr))]).bind fun apv=>
             bif (V.nth apv 0).toBool then
              bif Nat.ble (((V.nth r1 0).toStr).length+((V.nth r2 0).toStr).length) aB then
              bif Nat.ble ((((V.nth r1 0).toStr)++((V.nth r2 0).toStr)).length+((V.nth r3 0).toStr).length) aB then
               (C ax [.int .i64 ((V.nth ao 0).toInt),.int .i64 ((V.nth (ao.drop 1) 0).toInt),.list ag ((V.nth (ao.drop 3) 0).toList),.list ai ((V.nth ((ao.drop 3).drop 1) 0).toList),.str ((((V.nth r1 0).toStr)++((V.nth r2 0).toStr))++((V.nth r3 0).toStr))]).bind fun apw=>
               bif !((V.nth apw 0).toBool) then
               some [.bool false]
               else
               (C ax [.int .i64 ((V.nth r8 0).toInt),.int .i64 ((V.nth (r8.drop 1) 0).toInt),.list ag ((V.nth (r8.drop 3) 0).toList),.list ai ((V.nth ((r8.drop 3).drop 1) 0).toList),.str ((V.nth r2 0).toStr)]).bind fun apx=>
               (C bZ [.int .i64 aw,.int .i64 az,.list ag ar,.list ai ay,.str ((V.nth r2 0).toStr)]).bind fun apy=>
               bif !(((V.nth apx 0).toBool)==((V.nth apy 0).toBool)) then
                some [.bool false]
               else
                (C bU []).bind fun apz=>
                some [.bool ((V.nth apz 0).toBool)]
              else none
              else none
             else
              (C ax [.int .i64 ((V.nth r8 0).toInt),.int .i64 ((V.nth (r8.drop 1) 0).toInt),.list ag ((V.nth (r8.drop 3) 0).toList),.list ai ((V.nth ((r8.drop 3).drop 1) 0).toList),.str ((V.nth r2 0).toStr)]).bind fun apA=>
              (C bZ [.int .i64 aw,.int .i64 az,.list ag ar,.list ai ay,.str ((V.nth r2 0).toStr)]).bind fun apB=>
              bif !(((V.nth apA 0).toBool)==((V.nth apB 0).toBool)) then
              some [.bool false]
              else
              (C bU []).bind fun apC=>
              some [.bool ((V.nth apC 0).toBool)]
             else none
            else none
           else none
          else
           bif Nat.ble (((V.nth r1 0).toStr).length+((V.nth r2 0).toStr).length) aB then
           bif Nat.ble ((((V.nth r1 0).toStr)++((V.nth r2 0).toStr)).length+((V.nth r3 0).toStr).length) aB then
            (C ax [.int .i64 ((V.nth aO 0).toInt),.int .i64 ((V.nth (aO.drop 1) 0).toInt),.list ag ((V.nth (aO.drop 3) 0).toList),.list ai ((V.nth ((aO.drop 3).drop 1) 0).toList),.str ((((V.nth r1 0).toStr)++((V.nth r2 0).toStr))++((V.nth r3 0).toStr))]).bind fun apD=>
            bif (V.nth apD 0).toBool then
            bif Nat.ble (((V.nth r1 0).toStr).length+((V.nth r3 0).toStr).length) aB then
             (C ax [.int .i64 ((V.nth aO 0).toInt),.int .i64 ((V.nth (aO.drop 1) 0).toInt),.list ag ((V.nth (aO.drop 3) 0).toList),.list ai ((V.nth ((aO.drop 3).drop 1) 0).toList),.str (((V.nth r1 0).toStr)++((V.nth r3 0).toStr))]).bind fun apE=>
             bif !((V.nth apE 0).toBool) then
             some [.bool false]
             else
             bif Nat.ble (((V.nth r1 0).toStr).length+((V.nth r3 0).toStr).length) aB then
              (C ax [.int .i64 ((V.nth ao 0).toInt),.int .i64 ((V.nth (ao.drop 1) 0).toInt),.list ag ((V.nth (ao.drop 3) 0).toList),.list ai ((V.nth ((ao.drop 3).drop 1) 0).toList),.str (((V.nth r1 0).toStr)++((V.nth r3 0).toStr))]).bind fun apF=>
              bif (V.nth apF 0).toBool then
              bif Nat.ble (((V.nth r1 0).toStr).length+((V.nth r2 0).toStr).length) aB then
               bif Nat.ble ((((V.nth r1 0).toStr)++((V.nth r2 0).toStr)).length+((V.nth r3 0).toStr).length) aB then
               (C ax [.int .i64 ((V.nth ao 0).toInt),.int .i64 ((V.nth (ao.drop 1) 0).toInt),.list ag ((V.nth (ao.drop 3) 0).toList),.list ai ((V.nth ((ao.drop 3).drop 1) 0).toList),.str ((((V.nth r1 0).toStr)++((V.nth r2 0).toStr))++((V.nth r3 0).toStr))]).bind fun apG=>
               bif !((V.nth apG 0).toBool) then
                some [.bool false]
               else
                (C ax [.int .i64 ((V.nth r8 0).toInt),.int .i64 ((V.nth (r8.drop 1) 0).toInt),.list ag ((V.nth (r8.drop 3) 0).toList),.list ai ((V.nth ((r8.drop 3).drop 1) 0).toList),.str ((V.nth r2 0).toStr)]).bind fun apH=>
                (C bZ [.int .i64 aw,.int .i64 az,.list ag ar,.list ai ay,.str ((V.nth r2 0).toStr)]).bind fun apI=>
                bif !(((V.nth apH 0).toBool)==((V.nth apI 0).toBool)) then
                some [.bool false]
                else
                (C bU []).bind fun apJ=>
                some [.bool ((V.nth apJ 0).toBool)]
               else none
              else none
              else
              (C ax [.int .i64 ((V.nth r8 0).toInt),.int .i64 ((V.nth (r8.drop 1) 0).toInt),.list ag ((V.nth (r8.drop 3) 0).toList),.list ai ((V.nth ((r8.drop 3).drop 1) 0).toList),.str ((V.nth r2 0).toStr)]).bind fun apK=>
              (C bZ [.int .i64 aw,.int .i64 az,.list ag ar,.list ai ay,.str ((V.nth r2 0).toStr)]).bind fun apL=>
              bif !(((V.nth apK 0).toBool)==((V.nth apL 0).toBool)) then
               some [.bool false]
              else
               (C bU []).bind fun apM=>
               some [.bool ((V.nth apM 0).toBool)]
             else none
            else none
            else
            bif Nat.ble (((V.nth r1 0).toStr).length+((V.nth r3 0).toStr).length) aB then
             (C ax [.int .i64 ((V.nth ao 0).toInt),.int .i64 ((V.nth (ao.drop 1) 0).toInt),.list ag ((V.nth (ao.drop 3) 0).toList),.list ai ((V.nth ((ao.drop 3).drop 1) 0).toList),.str (((V.nth r1 0).toStr)++((V.nth r3 0).toStr))]).bind fun apO=>
             bif (V.nth apO 0).toBool then
             bif Nat.ble (((V.nth r1 0).toStr).length+((V.nth r2 0).toStr).length) aB then
              bif Nat.ble ((((V.nth r1 0).toStr)++((V.nth r2 0).toStr)).length+((V.nth r3 0).toStr).length) aB then
              (C ax [.int .i64 ((V.nth ao 0).toInt),.int .i64 ((V.nth (ao.drop 1) 0).toInt),.list ag ((V.nth (ao.drop 3) 0).toList),.list ai ((V.nth ((ao.drop 3).drop 1) 0).toList),.str ((((V.nth r1 0).toStr)++((V.nth r2 0).toStr))++((V.nth r3 0).toStr))]).bind fun apP=>
              bif !((V.nth apP 0).toBool) then
               some [.bool false]
              else
               (C ax [.int .i64 ((V.nth r8 0).toInt),.int .i64 ((V.nth (r8.drop 1) 0).toInt),.list ag ((V.nth (r8.drop 3) 0).toList),.list ai ((V.nth ((r8.drop 3).drop 1) 0).toList),.str ((V.nth r2 0).toStr)]).bind fun apQ=>
               (C bZ [.int .i64 aw,.int .i64 az,.list ag ar,.list ai ay,.str ((V.nth r2 0).toStr)]).bind fun apR=>
               bif !(((V.nth apQ 0).toBool)==((V.nth apR 0).toBool)) then
               some [.bool false]
               else
               (C bU []).bind fun apS=>
               some [.bool ((V.nth apS 0).toBool)]
              else none
             else none
             else
             (C ax [.int .i64 ((V.nth r8 0).toInt),.int .i64 ((V.nth (r8.drop 1) 0).toInt),.list ag ((V.nth (r8.drop 3) 0).toList),.list ai ((V.nth ((r8.drop 3).drop 1) 0).toList),.str ((V.nth r2 0).toStr)]).bind fun apU=>
             (C bZ [.int .i64 aw,.int .i64 az,.list ag ar,.list ai ay,.str ((V.nth r2 0).toStr)]).bind fun apV=>
             bif !(((V.nth apU 0).toBool)==((V.nth apV 0).toBool)) then
              some [.bool false]
             else
              (C bU []).bind fun apW=>
              some [.bool ((V.nth apW 0).toBool)]
            else none
           else none
           else none
          else none
         else none
        else none
       else none
      else none
      else none
  else none
  else none
theorem Qd {aw az:Int} {ar ay:List V} {u v w:List UInt8} {r:Option (List V)} (h:JA CC aw az ar ay u v w=r):CC LO [.int .i64 aw,.int .i64 az,.list ag ar,.list ai ay,.str u,.str v,.str w]=r:=
 bC (key:=13) (L:=dg) (bs:=[]) (by kernel_rfl) aC (bw (by kernel_rfl) h)
noncomputable def Z9 (C:ae) (aw az:Int) (ar ay:List V) (w:List UInt8):Option (List V):=
 (C G7 [.int .i64 aw,.int .i64 az,.list ag ar,.list ai ay]).bind fun r1=>
 (C G5 [.int .i64 aw,.int .i64 az,.list ag ar,.list ai ay,.int .i64 az,.str w]).bind fun r2=>
 bif (decide (0≤((V.nth r2 0).toInt)))&&(decide (((V.nth r2 0).toInt)<(((V.nth r1 0).toList).length:Int))) then
  (((V.nth r1 0).toList)[((V.nth r2 0).toInt:Int).toNat]?).bind fun x3=>
  some [.bool x3.toBool]
 else none
theorem apX {aw az:Int} {ar ay:List V} {w:List UInt8} {r:Option (List V)} (h:Z9 CC aw az ar ay w=r):CC bZ [.int .i64 aw,.int .i64 az,.list ag ar,.list ai ay,.str w]=r:=
 bC (key:=52) (L:=dg) (bs:=[]) (by kernel_rfl) aC (bw (by kernel_rfl) h)
end Go.AM
set_option maxRecDepth 100000
set_option maxHeartbeats 2000000
namespace Go.AM
open Go.Proofs
theorem apY {a:Da} (h:a.Ok) {w:List UInt8} (hw:dj w (a.L:Int)):CC bZ (jL a [.str w])=some [.bool (a.eY (a.run a.st (lets w)))]:=by
 have hr:=af2 h h.s w
 rw[af hw] at hr
 refine apX ?_
 unfold Z9
 refine bs (akm h) ?_
 refine bs hr ?_
 exact dN (h.na _ h.s hw.WL)
theorem aad (d:Df) (hd:d.Ok) (u0 v0 w0:List UInt8):CC LO (sW d [.str u0,.str v0,.str w0])=some [.bool true]:=by
 have hU:=Qa u0 4
 have hV:=Qa v0 4
 have hW:=Qa w0 4
 have lu:(u0.take 4).length≤4:=E3 _ _
 have lv:(v0.take 4).length≤4:=E3 _ _
 have lw:(w0.take 4).length≤4:=E3 _ _
 generalize u0.take 4=u at hU lu
 generalize v0.take 4=v at hV lv
 generalize w0.take 4=w at hW lw
 have hB:=akD hd 6
 by_cases h4:(d.F.length:Int)≤6∧d.val=0
 case neg=>
  rw[dE h4] at hB
  refine Qd ?_
  unfold JA
  refine bs hU (bs hV (bs hW ?_))
  refine bs hB (bT rfl ?_)
  exact bs Qc rfl
 rw[bO h4] at hB
 obtain ⟨a,ha,rfl⟩:=afC h4.2
 have n1:(a.n:Int)≤6:=h4.1
 have n3:=Zp ha
 rw[ha.leaves] at*
 have b1:Nat.ble (u.length+v.length) aB=true:=by rw[eL];unfold aB;omega
 have b2:Nat.ble ((u++v).length+w.length) aB=true:=by rw[eL,dD];unfold aB;omega
 have b3:Nat.ble (u.length+w.length) aB=true:=by rw[eL];unfold aB;omega
 by_cases hw:dj ((u++v)++w) (a.L:Int)
 case neg=>
  refine Qd ?_
  unfold JA
  refine bs hU (bs hV (bs hW ?_))
  refine bs hB (bF rfl ?_)
  refine bT b1 (bT b2 ?_)
  refine bs (N3 _ a.L) (bT (by rw[V.cq,V.j8];show (!(decide (dj ((u++v)++w) (a.L:Int))))=true;rw[dE hw];rfl) ?_)
  exact bs Qc rfl
 have wu:dj u (a.L:Int):=hw.left.left
 have wv:dj v (a.L:Int):=hw.left.right
 have ww:dj w (a.L:Int):=hw.right
 have wQ:dj (u++w) (a.L:Int):=wu.app ww (by omega)
 have Qe:dj (u++v) (a.L:Int):=hw.left
 have hP:=ak4 ha
 have rP:=alc ha
 generalize minD ((minD a).km (minD a).eY)=p at hP rP
 obtain ⟨s,hs,rs,_⟩:=(ala ha).small (by omega)
 obtain ⟨m,hm,rm,_⟩:=(alb ha).small (by omega)
 obtain ⟨b,hb,rb,_⟩:=(alS ha).small (by omega)
 obtain ⟨x,hx,rx,_⟩:=(ald ha).small (by omega)
 have ac: ∀{X:Da} {K:List Nat→Prop} {z:List UInt8},kX X a.L K→dj z (a.L:Int)→CC ax (jL X [.str z])=some [.bool (X.acc X.st (lets z))]:=fun {X K z} hX hz=>CJ hX.ok (by rw[hX.hL];exact hz)
 have e1:=CJ ha hw
 have e2:=CJ ha wQ
 have e3:=ac rP wu
 have e4:=ac rs ww
 have e5:=ac rm wv
 have e6:=ac rb wQ
 have e7:=ac rx hw
 have e8:=ac rP Qe
 have e9:=ac rm hw
 have Qf:=ac rb hw
 have Qg:=ac rx wQ
 have oa:=ac rP wv
 have JB:=apY ha wv
 have t1: ∀{X:Da} {K:List Nat→Prop} {z:List UInt8},kX X a.L K→dj z (a.L:Int)→(X.acc X.st (lets z)=true↔K (lets z)):=fun {X K z} hX hz=>hX.lB _ hz.WL
 have sub: ∀{c d e:List Nat},List.Sublist (c++e) (c++d++e):=fun {c d e}=>(List.sublist_append_left c d).append (List.Sublist.refl e)
 have k0:a.acc a.st (lets ((u++v)++w))=true→p.acc p.st (lets u)=true∧s.acc s.st (lets w)=true∧m.acc m.st (lets v)=true∧b.acc b.st (lets (u++w))=true:=fun h=>by
  rw[t1 rP wu,t1 rs ww,t1 rm wv,t1 rb wQ]
  rw[lF,lF] at h
  refine ⟨⟨lets v++lets w,WL.app.2 ⟨wv.WL,ww.WL⟩,by rw[←cY];exact h⟩,⟨lets u++lets v,WL.app.2 ⟨wu.WL,wv.WL⟩,h⟩,⟨lets u,lets w,wu.WL,ww.WL,h⟩,⟨_,WL.app.2 ⟨WL.app.2 ⟨wu.WL,wv.WL⟩,ww.WL⟩,by rw[lF];exact sub,h⟩⟩
 have k1:a.acc a.st (lets (u++w))=true→x.acc x.st (lets ((u++v)++w))=true:=fun h=>by
  rw[t1 rx hw]
  exact ⟨_,by rw[lF,lF,lF];exact sub,h⟩
 have k2:p.acc p.st (lets (u++v))=true→p.acc p.st (lets u)=true:=fun h=>by
  rw[t1 rP Qe] at h
  rw[t1 rP wu]
  obtain ⟨z,hz,h⟩:=h
  rw[lF,cY] at h
  exact ⟨_,WL.app.2 ⟨wv.WL,hz⟩,h⟩
 have k3:m.acc m.st (lets ((u++v)++w))=true→m.acc m.st (lets v)=true:=fun h=>by
  rw[t1 rm hw] at h
  rw[t1 rm wv]
  obtain ⟨y,z,hy,hz,h⟩:=h
  refine ⟨y++lets u,lets w++z,WL.app.2 ⟨hy,wu.WL⟩,WL.app.2 ⟨ww.WL,hz⟩,?_⟩
  rw[lF,lF] at h
  simpa[cY] using h
 have k4:b.acc b.st (lets ((u++v)++w))=true→b.acc b.st (lets (u++w))=true:=fun h=>by
  rw[t1 rb hw] at h
  rw[t1 rb wQ]
  obtain ⟨z,hz,h1,h2⟩:=h
  exact ⟨z,hz,List.Sublist.trans (by rw[lF,lF,lF];exact sub) h1,h2⟩
 have k5:x.acc x.st (lets (u++w))=true→x.acc x.st (lets ((u++v)++w))=true:=fun h=>by
  rw[t1 rx wQ] at h
  rw[t1 rx hw]
  obtain ⟨z,h1,h2⟩:=h
  exact ⟨z,h1.trans (by rw[lF,lF,lF];exact sub),h2⟩
 have k6:p.acc p.st (lets v)=a.eY (a.run a.st (lets v)):=by
  rw[lM,t1 rP wv,Da.zH]
  unfold Da.Live
  exact exists_congr fun z=>by rw[Da.Cq]
 rw[←k6] at JB
 refine Qd ?_
 unfold JA
 refine bs hU (bs hV (bs hW ?_))
 refine bs hB (bF rfl ?_)
 refine bT b1 (bT b2 ?_)
 refine bs (N3 _ a.L) (bF (by rw[V.cq,V.j8];show (!(decide (dj ((u++v)++w) (a.L:Int))))=false;rw[bO hw];rfl) ?_)
 refine bs hP ?_
 refine bs hs ?_
 refine bs hm ?_
 refine bs hb ?_
 refine bs hx ?_
 refine bF rfl (bF rfl (bF rfl (bF rfl (bF rfl ?_))))
 simp only[jL] at e1 e2 e3 e4 e5 e6 e7 e8 e9 Qf Qg oa JB
 simp only[gd,V.cq,mE,jQ,V.toInt_int,V.oe,V.ac7,b1,b2,b3,cond_true,e1,e2,e3,e4,e5,e6,e7,e8,e9,Qf,Qg,oa,JB,Option.bind_some,V.j8,Qc,beq_self_eq_true,zP,cond_false]
 clear e1 e2 e3 e4 e5 e6 e7 e8 e9 Qf Qg oa JB k6
 generalize a.acc a.st (lets ((u++v)++w))=A0 at*
 generalize a.acc a.st (lets (u++w))=A1 at*
 generalize p.acc p.st (lets (u++v))=A2 at*
 generalize m.acc m.st (lets ((u++v)++w))=A3 at*
 generalize b.acc b.st (lets ((u++v)++w))=A4 at*
 generalize x.acc x.st (lets (u++w))=A5 at*
 generalize p.acc p.st (lets u)=B1 at*
 generalize s.acc s.st (lets w)=B2 at*
 generalize m.acc m.st (lets v)=B3 at*
 generalize b.acc b.st (lets (u++w))=B4 at*
 generalize x.acc x.st (lets ((u++v)++w))=B5 at*
 clear hw wu wv ww wQ Qe hP rP hs rs hm rm hb rb hx rx ac t1 sub ha n1 n3 hB hU hV hW lu lv lw b1 b2 b3 h4 hd
 cases A0<;>cases A1<;>cases A2<;>cases A3<;>cases A4<;>cases A5<;>simp_all
end Go.AM
