/-
  Functions of the program, lifted to plain data.
-/
import Derived.Test.YtppefogdkedaiaaP4
set_option linter.unusedVariables false
set_option linter.unusedSimpArgs false
set_option maxRecDepth 100000
namespace Go.AM.SX
open Go.Proofs Ex
structure XE where
 e:Ex
 ok:e.Ok
instance:Inhabited XE:=⟨⟨.node 0 0 [],.node (by omega) (by omega) (by simp) (by simp)⟩⟩
namespace XE
def enc (x:XE):V:=x.e.enc
theorem bd (x:XE):(x.enc.cell 0).toInt=x.e.op:=Go.AM.bd x.e
theorem bj (x:XE):(x.enc.cell 1).toInt=x.e.bm:=Go.AM.bj x.e
theorem bh (x:XE):(x.enc.cell 2).toList=x.e.kids.map Ex.enc:=Go.AM.bh x.e
theorem re (x:XE):V.agg [.int .i64 x.e.op,.int .i64 x.e.bm,.list aa (x.e.kids.map Ex.enc)]=x.enc:=(Ex.dg x.e).symm
end XE
def bX (a b:XE):Int:=cmp a.e b.e
theorem gB (a b:XE):CC bp [.int .i64 a.e.op,.int .i64 a.e.bm,.list aa (a.e.kids.map Ex.enc),.int .i64 b.e.op,.int .i64 b.e.bm,.list aa (b.e.kids.map Ex.enc)]=some [.int .i64 (bX a b)]:=
 Rt a.e a.ok b.e b.ok
def XE.lt (a b:XE):Prop:=bX a b<0
theorem XE.lt_irrefl (a:XE): ¬a.lt a:=by unfold XE.lt bX;rw[AK];omega
theorem adQ {a b c:Ex} (h1:cmp a b<0) (U:cmp b c<0):cmp a c<0:=by
 have h3:=KL a b c (by omega) (by omega)
 refine Decidable.byContradiction fun h=> ?_
 have h0:cmp a c=0:=by omega
 have:=uD a c h0
 subst this
 have:=sn a b
 omega
theorem XE.lt_trans {a b c:XE} (h1:a.lt b) (U:b.lt c):a.lt c:=adQ h1 U
theorem XE.adR {a b c:XE} (h1: ¬a.lt b) (U: ¬b.lt c): ¬a.lt c:=by
 unfold XE.lt bX at*
 have a1:=sn a.e b.e
 have a2:=sn b.e c.e
 have a3:=sn a.e c.e
 have:=KL c.e b.e a.e (by omega) (by omega)
 omega
end Go.AM.SX
set_option maxRecDepth 100000
namespace Go.AM
open Go.Proofs
noncomputable abbrev Fz:Code:=cC Try.prog (ay.aT 111)
noncomputable def xA (C:ag) (a b' i j:Int) (ak:List V) {β:Type} (kn:(Int × (List V))→Option β) (kr:(Int × Bool × (List V))→Option β):Option β:=
 bif decide ((j:Int)>a) then
  bif (decide (0≤j))&&(decide (j<(ak.length:Int))) then
  (ak[(j:Int).toNat]?).bind fun x1=>
  bif (decide (0≤(IntKind.wrap .i64 (j-1))))&&(decide ((IntKind.wrap .i64 (j-1))<(ak.length:Int))) then
   (ak[(IntKind.wrap .i64 (j-1):Int).toNat]?).bind fun x2=>
   (C bp [.int .i64 ((x1.cell 0).toInt),.int .i64 ((x1.cell 1).toInt),.list aa ((x1.cell 2).toList),.int .i64 ((x2.cell 0).toInt),.int .i64 ((x2.cell 1).toInt),.list aa ((x2.cell 2).toList)]).bind fun r3=>
   bif decide ((((V.nth r3 0).toInt):Int)<0) then
   bif (decide (0≤(IntKind.wrap .i64 (j-1))))&&(decide ((IntKind.wrap .i64 (j-1))<(ak.length:Int))) then
    (ak[(IntKind.wrap .i64 (j-1):Int).toNat]?).bind fun x4=>
    bif (decide (0≤j))&&(decide (j<(ak.length:Int))) then
    (ak[(j:Int).toNat]?).bind fun x5=>
    bif (decide (0≤j))&&(decide (j<(ak.length:Int))) then
     (ak[(j:Int).toNat]?).bind fun x6=>
     bif (decide (0≤(IntKind.wrap .i64 (j-1))))&&(decide ((IntKind.wrap .i64 (j-1))<((ak.set ((j:Int).toNat) (.agg [.int .i64 ((x4.cell 0).toInt),.int .i64 ((x4.cell 1).toInt),.list aa ((x4.cell 2).toList)])).length:Int))) then
     ((ak.set ((j:Int).toNat) (.agg [.int .i64 ((x4.cell 0).toInt),.int .i64 ((x4.cell 1).toInt),.list aa ((x4.cell 2).toList)]))[(IntKind.wrap .i64 (j-1):Int).toNat]?).bind fun x7=>
     kn (IntKind.wrap .i64 (j-1),(ak.set ((j:Int).toNat) (.agg [.int .i64 ((x4.cell 0).toInt),.int .i64 ((x4.cell 1).toInt),.list aa ((x4.cell 2).toList)])).set ((IntKind.wrap .i64 (j-1):Int).toNat) (.agg [.int .i64 ((x5.cell 0).toInt),.int .i64 ((x5.cell 1).toInt),.list aa ((x5.cell 2).toList)]))
     else none
    else none
    else none
   else none
   else
   kr (j,decide ((((V.nth r3 0).toInt):Int)<0),ak)
  else none
  else none
 else
  kr (j,false,ak)
noncomputable def xB (C:ag) (a b' i:Int):(Int × (List V))→Option ((Int × (List V)) ⊕ (Int × Bool × (List V))):=un fun j ak=>xA C a b' i j ak (fun y=>some (.inl y)) (fun r=>some (.inr r))
noncomputable def A0 (C:ag) (a b' i:Int) (ak:List V) {β:Type} (kn:(Int × (List V))→Option β) (kr:(Int × Bool × (List V))→Option β):Option β:=
 bif decide ((i:Int)<b') then
  (Loop (xB C a b' i) (i,ak)).bind (un fun (j_8:Int)=>un fun (sk:Bool) (oJ:List V)=>
   kn (IntKind.wrap .i64 (i+1),oJ))
 else
  kr (i,decide ((i:Int)<b'),ak)
noncomputable def FA (C:ag) (a b':Int):(Int × (List V))→Option ((Int × (List V)) ⊕ (Int × Bool × (List V))):=un fun i ak=>A0 C a b' i ak (fun y=>some (.inl y)) (fun r=>some (.inr r))
noncomputable def Su (C:ag):cp:=fun β n ds k=>
 bif Nat.beq n 65 then bW J6 [false,false,false,true,true] [[1,2,3,0,0,0]] (@xA C) ds k else
 bif Nat.beq n 17 then bW J7 [false,false,true,true] [[1,2,0,0,0]] (@A0 C) ds k else
 none
abbrev Sv (C:ag) (b:cj):Prop:=cl Try.prog ay C (Su C) 111 (cH Try.prog (ay.aT 111)) (ay.sin 111).bc.length b
theorem adS (C:ag):Sv C (.loop (aw [1,0,0,1,0,0,1,0,0] Fz)):=
 ca J6 [false,false,false,true,true] [[1,2,3,0,0,0]] (@xA C) (by kernel_rfl) (bf (bs:=[]) (by kernel_rfl) ax) (fun ds=>by kernel_rfl) (fun i x=>by kernel_rfl) (fun i x β k=>by kernel_rfl) (fun β ds k=>by kernel_rfl)
theorem adT (C:ag):Sv C (.loop (aw [1,0,0] Fz)):=
 ca J7 [false,false,true,true] [[1,2,0,0,0]] (@A0 C) (by kernel_rfl) (bf (bs:=[.loop (aw [1,0,0,1,0,0,1,0,0] Fz)]) (by kernel_rfl) (bA (adS C) ax)) (fun ds=>by kernel_rfl) (fun i x=>by kernel_rfl) (fun i x β k=>by kernel_rfl) (fun β ds k=>by kernel_rfl)
noncomputable def Sw (C:ag) (a b':Int) (ak:List V):Option (List V):=
 (Loop (FA C a b') (IntKind.wrap .i64 (a+1),ak)).bind (un fun (ajX:Int)=>un fun (Fg:Bool) (Lf:List V)=>
  some [.list aa Lf])
theorem adU {a b':Int} {ak:List V} {r:Option (List V)} (h:Sw CC a b' ak=r):CC As [.int .i64 a,.int .i64 b',.list aa ak]=r:=
 a9 (key:=111) (L:=Su CC) (bs:=[.loop (aw [1,0,0] Fz)]) (by kernel_rfl) (bA (adT CC) ax) (aZ (by kernel_rfl) h)
noncomputable abbrev xC:Code:=cC Try.prog (ay.aT 121)
noncomputable def uO (C:ag) (hi first root child:Int) (t40:Bool) (ak:List V) {β:Type} (kr:(Int)→Option β):Option β:=
 bif t40 then
  kr (IntKind.wrap .i64 (child+1))
 else
  kr child
noncomputable def sy (C:ag) (hi first root:Int) (ak:List V) {β:Type} (kn:(Int × (List V))→Option β) (kr:((Int × Int × Bool × (List V)) ⊕ (Int × Int × Bool × (List V)))→Option β):Option β:=
 bif decide (((IntKind.wrap .i64 ((IntKind.wrap .i64 (root*2))+1)):Int)≥hi) then
  kr (.inl (root,IntKind.wrap .i64 ((IntKind.wrap .i64 (root*2))+1),decide (((IntKind.wrap .i64 ((IntKind.wrap .i64 (root*2))+1)):Int)≥hi),ak))
 else
  bif decide (((IntKind.wrap .i64 ((IntKind.wrap .i64 ((IntKind.wrap .i64 (root*2))+1))+1)):Int)<hi) then
  bif (decide (0≤(IntKind.wrap .i64 (first+(IntKind.wrap .i64 ((IntKind.wrap .i64 (root*2))+1))))))&&(decide ((IntKind.wrap .i64 (first+(IntKind.wrap .i64 ((IntKind.wrap .i64 (root*2))+1))))<(ak.length:Int))) then
   (ak[(IntKind.wrap .i64 (first+(IntKind.wrap .i64 ((IntKind.wrap .i64 (root*2))+1))):Int).toNat]?).bind fun x1=>
   bif (decide (0≤(IntKind.wrap .i64 ((IntKind.wrap .i64 (first+(IntKind.wrap .i64 ((IntKind.wrap .i64 (root*2))+1))))+1))))&&(decide ((IntKind.wrap .i64 ((IntKind.wrap .i64 (first+(IntKind.wrap .i64 ((IntKind.wrap .i64 (root*2))+1))))+1))<(ak.length:Int))) then
   (ak[(IntKind.wrap .i64 ((IntKind.wrap .i64 (first+(IntKind.wrap .i64 ((IntKind.wrap .i64 (root*2))+1))))+1):Int).toNat]?).bind fun x2=>
   (C bp [.int .i64 ((x1.cell 0).toInt),.int .i64 ((x1.cell 1).toInt),.list aa ((x1.cell 2).toList),.int .i64 ((x2.cell 0).toInt),.int .i64 ((x2.cell 1).toInt),.list aa ((x2.cell 2).toList)]).bind fun r3=>
   uO C hi first root (IntKind.wrap .i64 ((IntKind.wrap .i64 (root*2))+1)) (decide ((((V.nth r3 0).toInt):Int)<0)) ak (fun (nz:Int)=>
    bif (decide (0≤(IntKind.wrap .i64 (first+root))))&&(decide ((IntKind.wrap .i64 (first+root))<(ak.length:Int))) then
     (ak[(IntKind.wrap .i64 (first+root):Int).toNat]?).bind fun x5=>
     bif (decide (0≤(IntKind.wrap .i64 (first+nz))))&&(decide ((IntKind.wrap .i64 (first+nz))<(ak.length:Int))) then
     (ak[(IntKind.wrap .i64 (first+nz):Int).toNat]?).bind fun x6=>
     (C bp [.int .i64 ((x5.cell 0).toInt),.int .i64 ((x5.cell 1).toInt),.list aa ((x5.cell 2).toList),.int .i64 ((x6.cell 0).toInt),.int .i64 ((x6.cell 1).toInt),.list aa ((x6.cell 2).toList)]).bind fun r7=>
     bif !(decide ((((V.nth r7 0).toInt):Int)<0)) then
      kr (.inr (root,nz,!(decide ((((V.nth r7 0).toInt):Int)<0)),ak))
     else
      bif (decide (0≤(IntKind.wrap .i64 (first+nz))))&&(decide ((IntKind.wrap .i64 (first+nz))<(ak.length:Int))) then
      (ak[(IntKind.wrap .i64 (first+nz):Int).toNat]?).bind fun x8=>
      bif (decide (0≤(IntKind.wrap .i64 (first+root))))&&(decide ((IntKind.wrap .i64 (first+root))<(ak.length:Int))) then
       (ak[(IntKind.wrap .i64 (first+root):Int).toNat]?).bind fun x9=>
       bif (decide (0≤(IntKind.wrap .i64 (first+root))))&&(decide ((IntKind.wrap .i64 (first+root))<(ak.length:Int))) then
       (ak[(IntKind.wrap .i64 (first+root):Int).toNat]?).bind fun nA=>
       bif (decide (0≤(IntKind.wrap .i64 (first+nz))))&&(decide ((IntKind.wrap .i64 (first+nz))<((ak.set ((IntKind.wrap .i64 (first+root):Int).toNat) (.agg [.int .i64 ((x8.cell 0).toInt),.int .i64 ((x8.cell 1).toInt),.list aa ((x8.cell 2).toList)])).length:Int))) then
        ((ak.set ((IntKind.wrap .i64 (first+root):Int).toNat) (.agg [.int .i64 ((x8.cell 0).toInt),.int .i64 ((x8.cell 1).toInt),.list aa ((x8.cell 2).toList)]))[(IntKind.wrap .i64 (first+nz):Int).toNat]?).bind fun eV=>
        kn (nz,(ak.set ((IntKind.wrap .i64 (first+root):Int).toNat) (.agg [.int .i64 ((x8.cell 0).toInt),.int .i64 ((x8.cell 1).toInt),.list aa ((x8.cell 2).toList)])).set ((IntKind.wrap .i64 (first+nz):Int).toNat) (.agg [.int .i64 ((x9.cell 0).toInt),.int .i64 ((x9.cell 1).toInt),.list aa ((x9.cell 2).toList)]))
       else none
       else none
      else none
      else none
     else none
    else none)
   else none
  else none
  else
  uO C hi first root (IntKind.wrap .i64 ((IntKind.wrap .i64 (root*2))+1)) false ak (fun (nB:Int)=>
   bif (decide (0≤(IntKind.wrap .i64 (first+root))))&&(decide ((IntKind.wrap .i64 (first+root))<(ak.length:Int))) then
    (ak[(IntKind.wrap .i64 (first+root):Int).toNat]?).bind fun jI=>
    bif (decide (0≤(IntKind.wrap .i64 (first+nB))))&&(decide ((IntKind.wrap .i64 (first+nB))<(ak.length:Int))) then
    (ak[(IntKind.wrap .i64 (first+nB):Int).toNat]?).bind fun nC=>
    (C bp [.int .i64 ((jI.cell 0).toInt),.int .i64 ((jI.cell 1).toInt),.list aa ((jI.cell 2).toList),.int .i64 ((nC.cell 0).toInt),.int .i64 ((nC.cell 1).toInt),.list aa ((nC.cell 2).toList)]).bind fun jJ=>
    bif !(decide ((((V.nth jJ 0).toInt):Int)<0)) then
     kr (.inr (root,nB,!(decide ((((V.nth jJ 0).toInt):Int)<0)),ak))
    else
     bif (decide (0≤(IntKind.wrap .i64 (first+nB))))&&(decide ((IntKind.wrap .i64 (first+nB))<(ak.length:Int))) then
     (ak[(IntKind.wrap .i64 (first+nB):Int).toNat]?).bind fun fb=>
     bif (decide (0≤(IntKind.wrap .i64 (first+root))))&&(decide ((IntKind.wrap .i64 (first+root))<(ak.length:Int))) then
      (ak[(IntKind.wrap .i64 (first+root):Int).toNat]?).bind fun qS=>
      bif (decide (0≤(IntKind.wrap .i64 (first+root))))&&(decide ((IntKind.wrap .i64 (first+root))<(ak.length:Int))) then
      (ak[(IntKind.wrap .i64 (first+root):Int).toNat]?).bind fun jk=>
      bif (decide (0≤(IntKind.wrap .i64 (first+nB))))&&(decide ((IntKind.wrap .i64 (first+nB))<((ak.set ((IntKind.wrap .i64 (first+root):Int).toNat) (.agg [.int .i64 ((fb.cell 0).toInt),.int .i64 ((fb.cell 1).toInt),.list aa ((fb.cell 2).toList)])).length:Int))) then
       ((ak.set ((IntKind.wrap .i64 (first+root):Int).toNat) (.agg [.int .i64 ((fb.cell 0).toInt),.int .i64 ((fb.cell 1).toInt),.list aa ((fb.cell 2).toList)]))[(IntKind.wrap .i64 (first+nB):Int).toNat]?).bind fun pJ=>
       kn (nB,(ak.set ((IntKind.wrap .i64 (first+root):Int).toNat) (.agg [.int .i64 ((fb.cell 0).toInt),.int .i64 ((fb.cell 1).toInt),.list aa ((fb.cell 2).toList)])).set ((IntKind.wrap .i64 (first+nB):Int).toNat) (.agg [.int .i64 ((qS.cell 0).toInt),.int .i64 ((qS.cell 1).toInt),.list aa ((qS.cell 2).toList)]))
      else none
      else none
     else none
     else none
    else none
   else none)
noncomputable def oK (C:ag) (hi first:Int):(Int × (List V))→Option ((Int × (List V)) ⊕ ((Int × Int × Bool × (List V)) ⊕ (Int × Int × Bool × (List V)))):=un fun root ak=>sy C hi first root ak (fun y=>some (.inl y)) (fun r=>some (.inr r))
noncomputable def Sy (C:ag):cp:=fun β n ds k=>
 bif Nat.beq n 655 then iN Ku [[1,2,3,0,6]] (@uO C) ds k else
 bif Nat.beq n 17 then bW Kv [false,false,true,true] [[1,2,0,0,0,0],[1,2,0,0,0,0]] (@sy C) ds k else
 none
abbrev Sz (C:ag) (b:cj):Prop:=cl Try.prog ay C (Sy C) 121 (cH Try.prog (ay.aT 121)) (ay.sin 121).bc.length b
theorem adV (C:ag):Sz C (.cond 40 (aw [1,0,0,0,1,1,0,1,0] xC) (aw [1,0,0,0,1,1,0,1,1] xC)):=
 jh Ku [[1,2,3,0,6]] (@uO C) (by kernel_rfl) (bf (bs:=[]) (by kernel_rfl) ax) (bf (bs:=[]) (by kernel_rfl) ax) (fun ds=>by kernel_rfl) (fun i β k=>by kernel_rfl) (fun β ds k=>by kernel_rfl)
theorem adW (C:ag):Sz C (.loop (aw [1,0,0] xC)):=
 ca Kv [false,false,true,true] [[1,2,0,0,0,0],[1,2,0,0,0,0]] (@sy C) (by kernel_rfl) (bf (bs:=[.cond 40 (aw [1,0,0,0,1,1,0,1,0] xC) (aw [1,0,0,0,1,1,0,1,1] xC)]) (by kernel_rfl) (bA (adV C) ax)) (fun ds=>by kernel_rfl) (fun i x=>by kernel_rfl) (fun i x β k=>by kernel_rfl) (fun β ds k=>by kernel_rfl)
noncomputable def SA (C:ag) (lo hi first:Int) (ak:List V):Option (List V):=
 (Loop (oK C hi first) (lo,ak)).bind (b7 (un fun (ajY:Int)=>un fun (ajZ:Int)=>un fun (Fi:Bool) (adX:List V)=>
  some [.list aa adX]) (un fun (aj0:Int)=>un fun (aj1:Int)=>un fun (Q0:Bool) (qT:List V)=>
  some [.list aa qT]))
theorem adY {lo hi first:Int} {ak:List V} {r:Option (List V)} (h:SA CC lo hi first ak=r):CC Aw [.int .i64 lo,.int .i64 hi,.int .i64 first,.list aa ak]=r:=
 a9 (key:=121) (L:=Sy CC) (bs:=[.loop (aw [1,0,0] xC)]) (by kernel_rfl) (bA (adW CC) ax) (aZ (by kernel_rfl) h)
noncomputable abbrev FB:Code:=cC Try.prog (ay.aT 112)
noncomputable def A1 (C:ag) (first lo hi i:Int) (ak:List V) {β:Type} (kn:(Int × (List V))→Option β) (kr:(Int × Bool × (List V))→Option β):Option β:=
 bif decide ((i:Int)≥0) then
  (C Aw [.int .i64 i,.int .i64 hi,.int .i64 first,.list aa ak]).bind fun r1=>
  kn (IntKind.wrap .i64 (i-1),(V.nth r1 0).toList)
 else
  kr (i,decide ((i:Int)≥0),ak)
noncomputable def FC (C:ag) (first lo hi:Int):(Int × (List V))→Option ((Int × (List V)) ⊕ (Int × Bool × (List V))):=un fun i ak=>A1 C first lo hi i ak (fun y=>some (.inl y)) (fun r=>some (.inr r))
noncomputable def A3 (C:ag) (first lo i:Int) (ak:List V) {β:Type} (kn:(Int × (List V))→Option β) (kr:(Int × Bool × (List V))→Option β):Option β:=
 bif decide ((i:Int)≥0) then
  bif (decide (0≤(IntKind.wrap .i64 (first+i))))&&(decide ((IntKind.wrap .i64 (first+i))<(ak.length:Int))) then
  (ak[(IntKind.wrap .i64 (first+i):Int).toNat]?).bind fun x5=>
  bif (decide (0≤first))&&(decide (first<(ak.length:Int))) then
   (ak[(first:Int).toNat]?).bind fun x6=>
   bif (decide (0≤first))&&(decide (first<(ak.length:Int))) then
   (ak[(first:Int).toNat]?).bind fun x7=>
   bif (decide (0≤(IntKind.wrap .i64 (first+i))))&&(decide ((IntKind.wrap .i64 (first+i))<((ak.set ((first:Int).toNat) (.agg [.int .i64 ((x5.cell 0).toInt),.int .i64 ((x5.cell 1).toInt),.list aa ((x5.cell 2).toList)])).length:Int))) then
    ((ak.set ((first:Int).toNat) (.agg [.int .i64 ((x5.cell 0).toInt),.int .i64 ((x5.cell 1).toInt),.list aa ((x5.cell 2).toList)]))[(IntKind.wrap .i64 (first+i):Int).toNat]?).bind fun x8=>
    (C Aw [.int .i64 lo,.int .i64 i,.int .i64 first,.list aa ((ak.set ((first:Int).toNat) (.agg [.int .i64 ((x5.cell 0).toInt),.int .i64 ((x5.cell 1).toInt),.list aa ((x5.cell 2).toList)])).set ((IntKind.wrap .i64 (first+i):Int).toNat) (.agg [.int .i64 ((x6.cell 0).toInt),.int .i64 ((x6.cell 1).toInt),.list aa ((x6.cell 2).toList)]))]).bind fun r9=>
    kn (IntKind.wrap .i64 (i-1),(V.nth r9 0).toList)
   else none
   else none
  else none
  else none
 else
  kr (i,decide ((i:Int)≥0),ak)
noncomputable def FD (C:ag) (first lo:Int):(Int × (List V))→Option ((Int × (List V)) ⊕ (Int × Bool × (List V))):=un fun i ak=>A3 C first lo i ak (fun y=>some (.inl y)) (fun r=>some (.inr r))
noncomputable def SB (C:ag):cp:=fun β n ds k=>
 bif Nat.beq n 65 then bW J8 [false,false,false,true,true] [[1,2,3,0,0,0]] (@A1 C) ds k else
 bif Nat.beq n 129 then bW J9 [false,false,true,true] [[1,2,0,0,0]] (@A3 C) ds k else
 none
abbrev SC (C:ag) (b:cj):Prop:=cl Try.prog ay C (SB C) 112 (cH Try.prog (ay.aT 112)) (ay.sin 112).bc.length b
theorem adZ (C:ag):SC C (.loop (aw [1,1,1,0,1,0,0] FB)):=
 ca J8 [false,false,false,true,true] [[1,2,3,0,0,0]] (@A1 C) (by kernel_rfl) (bf (bs:=[]) (by kernel_rfl) ax) (fun ds=>by kernel_rfl) (fun i x=>by kernel_rfl) (fun i x β k=>by kernel_rfl) (fun β ds k=>by kernel_rfl)
theorem ad0 (C:ag):SC C (.loop (aw [1,1,1,1,1,0,0] FB)):=
 ca J9 [false,false,true,true] [[1,2,0,0,0]] (@A3 C) (by kernel_rfl) (bf (bs:=[]) (by kernel_rfl) ax) (fun ds=>by kernel_rfl) (fun i x=>by kernel_rfl) (fun i x β k=>by kernel_rfl) (fun β ds k=>by kernel_rfl)
noncomputable def SD (C:ag) (a b':Int) (ak:List V):Option (List V):=
 (Loop (FC C a 0 (IntKind.wrap .i64 (b'-a))) (IntKind.wrap .i64 (Int.tdiv (IntKind.wrap .i64 ((IntKind.wrap .i64 (b'-a))-1)) 2),ak)).bind (un fun (i_2:Int)=>un fun (iP:Bool) (ad1:List V)=>
  (Loop (FD C a 0) (IntKind.wrap .i64 ((IntKind.wrap .i64 (b'-a))-1),ad1)).bind (un fun (ad2:Int)=>un fun (xb:Bool) (mD:List V)=>
   some [.list aa mD]))
theorem ad3 {a b':Int} {ak:List V} {r:Option (List V)} (h:SD CC a b' ak=r):CC Au [.int .i64 a,.int .i64 b',.list aa ak]=r:=
 a9 (key:=112) (L:=SB CC) (bs:=[.loop (aw [1,1,1,0,1,0,0] FB),.loop (aw [1,1,1,1,1,0,0] FB)]) (by kernel_rfl) (bA (adZ CC) (bA (ad0 CC) ax)) (aZ (by kernel_rfl) h)
noncomputable abbrev SE:Code:=cC Try.prog (ay.aT 115)
noncomputable def xD (C:ag) (i j:Int) (ak:List V) {β:Type} (kn:(Int × Int × (List V))→Option β) (kr:(Int × Int × Bool × (List V))→Option β):Option β:=
 bif decide ((i:Int)<j) then
  bif (decide (0≤j))&&(decide (j<(ak.length:Int))) then
  (ak[(j:Int).toNat]?).bind fun x1=>
  bif (decide (0≤i))&&(decide (i<(ak.length:Int))) then
   (ak[(i:Int).toNat]?).bind fun x2=>
   bif (decide (0≤i))&&(decide (i<(ak.length:Int))) then
   (ak[(i:Int).toNat]?).bind fun x3=>
   bif (decide (0≤j))&&(decide (j<((ak.set ((i:Int).toNat) (.agg [.int .i64 ((x1.cell 0).toInt),.int .i64 ((x1.cell 1).toInt),.list aa ((x1.cell 2).toList)])).length:Int))) then
    ((ak.set ((i:Int).toNat) (.agg [.int .i64 ((x1.cell 0).toInt),.int .i64 ((x1.cell 1).toInt),.list aa ((x1.cell 2).toList)]))[(j:Int).toNat]?).bind fun x4=>
    kn (IntKind.wrap .i64 (i+1),IntKind.wrap .i64 (j-1),(ak.set ((i:Int).toNat) (.agg [.int .i64 ((x1.cell 0).toInt),.int .i64 ((x1.cell 1).toInt),.list aa ((x1.cell 2).toList)])).set ((j:Int).toNat) (.agg [.int .i64 ((x2.cell 0).toInt),.int .i64 ((x2.cell 1).toInt),.list aa ((x2.cell 2).toList)]))
   else none
   else none
  else none
  else none
 else
  kr (i,j,decide ((i:Int)<j),ak)
noncomputable def A4 (C:ag):(Int × Int × (List V))→Option ((Int × Int × (List V)) ⊕ (Int × Int × Bool × (List V))):=un fun i=>un fun j ak=>xD C i j ak (fun y=>some (.inl y)) (fun r=>some (.inr r))
noncomputable def SF (C:ag):cp:=fun β n ds k=>
 bif Nat.beq n 33 then bW Ke [true,true,true] [[0,0,0,0]] (@xD C) ds k else
 none
abbrev ad4 (C:ag) (b:cj):Prop:=cl Try.prog ay C (SF C) 115 (cH Try.prog (ay.aT 115)) (ay.sin 115).bc.length b
theorem ad5 (C:ag):ad4 C (.loop (aw [1,1,0,0] SE)):=
 ca Ke [true,true,true] [[0,0,0,0]] (@xD C) (by kernel_rfl) (bf (bs:=[]) (by kernel_rfl) ax) (fun ds=>by kernel_rfl) (fun i x=>by kernel_rfl) (fun i x β k=>by kernel_rfl) (fun β ds k=>by kernel_rfl)
noncomputable def SG (C:ag) (a b':Int) (ak:List V):Option (List V):=
 (Loop (A4 C) (a,IntKind.wrap .i64 (b'-1),ak)).bind (un fun (cO:Int)=>un fun (K7:Int)=>un fun (pF:Bool) (ad6:List V)=>
  some [.list aa ad6])
theorem ad7 {a b':Int} {ak:List V} {r:Option (List V)} (h:SG CC a b' ak=r):CC EP [.int .i64 a,.int .i64 b',.list aa ak]=r:=
 a9 (key:=115) (L:=SF CC) (bs:=[.loop (aw [1,1,0,0] SE)]) (by kernel_rfl) (bA (ad5 CC) ax) (aZ (by kernel_rfl) h)
end Go.AM
set_option maxRecDepth 100000
set_option maxHeartbeats 4000000
namespace Go.AM.SX
open Go.Proofs Go.Sort
def aA (a b:XE):Bool:=decide (bX a b<0)
theorem sA (a b:XE):(aA a b=true)=(bX a b<0):=by unfold aA;rw[ec]
theorem qU (a b:XE):((!aA a b)=true)= ¬(bX a b<0):=by unfold aA;simp
abbrev eA (d:Array XE):List V:=pI XE.enc d
theorem ad8 (a j:Nat) (d:Array XE):insInner aA a (j+1) d=if j+1>a then (if bX d[j+1]! d[j]! <0 then insInner aA a j (swp d (j+1) j) else d) else d:=by
 rw[Ss]
 by_cases h1:j+1>a
 ·rw[aj h1];simp only[h1,rm,lV,sA]
 ·rw[ai h1,ai (by simp[h1])]
theorem Lg (hi first root:Nat) (d:Array XE):siftDown aA hi first root d=
  if 2*root+1≥hi then d else
   if 2*root+2<hi then
    (if bX d[first+(2*root+1)]! d[first+(2*root+2)]! <0 then
     (if bX d[first+root]! d[first+(2*root+2)]! <0 then siftDown aA hi first (2*root+2) (swp d (first+root) (first+(2*root+2))) else d)
    else (if bX d[first+root]! d[first+(2*root+1)]! <0 then siftDown aA hi first (2*root+1) (swp d (first+root) (first+(2*root+1))) else d))
   else (if bX d[first+root]! d[first+(2*root+1)]! <0 then siftDown aA hi first (2*root+1) (swp d (first+root) (first+(2*root+1))) else d):=by
 rw[siftDown]
 by_cases h1:2*root+1≥hi
 ·rw[rj h1,aj h1]
 rw[dif_neg h1,ai h1]
 by_cases U:2*root+2<hi
 ·rw[aj U]
  by_cases h3:bX d[first+(2*root+1)]! d[first+(2*root+2)]! <0
  ·rw[aj h3,aj (by simp only[aK,ec,sA];exact ⟨U,h3⟩)]
   simp only[qU]
   by_cases h4:bX d[first+root]! d[first+(2*root+2)]! <0
   ·rw[ai (pY h4),rj U,aj h4]
   ·rw[aj h4,ai h4]
  ·rw[ai h3,ai (by simp only[aK,ec,sA];exact fun h=>h3 h.2)]
   simp only[qU]
   by_cases h4:bX d[first+root]! d[first+(2*root+1)]! <0
   ·rw[ai (pY h4),aj h4]
   ·rw[aj h4,ai h4]
 ·rw[ai U,ai (by simp only[aK,ec,sA];exact fun h=>U h.1)]
  simp only[qU]
  by_cases h4:bX d[first+root]! d[first+(2*root+1)]! <0
  ·rw[ai (pY h4),aj h4]
  ·rw[aj h4,ai h4]
theorem SH {a b i:Nat}: ∀(j:Nat) (d:Array XE),j<d.size→d.size<1152921504606846976→
  ∃j' t,Loop (xB CC a b i) ((j:Int),eA d)=some (j',t,eA (insInner aA a j d))
 | 0,d,hj,hs=>⟨(0:Nat),false,aV (by
   simp (disch:=omega) only[xB,xA,un,az,ai]
   rfl)⟩
 | j+1,d,hj,hs=>by
  obtain ⟨j',t,ih⟩:=SH (a:=a) (b:=b) (i:=i) j (swp d (j+1) j) (by rw[size_swp];omega) (by rw[size_swp];omega)
  rw[ad8]
  by_cases h1:j+1>a
  ·rw[aj h1]
   have e:xB CC a b i (((j+1:Nat):Int),eA d)=if bX d[j+1]! d[j]! <0 then some (.inl ((j:Int),eA (swp d (j+1) j))) else some (.inr (((j+1:Nat):Int),decide (bX d[j+1]! d[j]! <0),eA d)):=by
    simp (disch:=omega) only[xB,xA,un,az,cS,gp,aj,ai,wrap64,dL,fM,Int.toNat_natCast,Option.bind_some,fJ,fL,XE.bd,XE.bj,XE.bh,XE.re,fK,il,gG,gB,V.aW,V.toInt_int,cond_true,cond_false,uN]
    rfl
   by_cases U:bX d[j+1]! d[j]! <0
   ·rw[aj U] at e⊢
    exact ⟨j',t,(bQ e).trans ih⟩
   ·rw[ai U] at e⊢
    exact ⟨_,_,aV e⟩
  ·rw[ai h1]
   exact ⟨((j+1:Nat):Int),false,aV (by
    simp (disch:=omega) only[xB,xA,un,az,ai])⟩
theorem ad9 {a b:Nat}: ∀(n i:Nat) (d:Array XE),b-i=n→b≤d.size→d.size<1152921504606846976→
  ∃j' t,Loop (FA CC a b) ((i:Int),eA d)=some (j',t,eA (insOuter aA a b i d)):=by
 intro n
 induction n with
 | zero=>
  intro i d hn hb hs
  rw[insOuter,ai (by omega)]
  exact ⟨(i:Int),false,aV (by
   simp (disch:=omega) only[FA,A0,un,sx,cond_false])⟩
 | succ n ih=>
  intro i d hn hb hs
  obtain ⟨j1,t1,h1⟩:=SH (a:=a) (b:=b) (i:=i) i d (by omega) hs
  obtain ⟨j',t,U⟩:=ih (i+1) (insInner aA a i d) (by omega) (by rw[Lc];omega) (by rw[Lc];omega)
  rw[insOuter,aj (by omega)]
  refine ⟨j',t,(bQ ?_).trans U⟩
  simp (disch:=omega) only[FA,A0,un,az,aj,h1,Option.bind_some,dL,wrap64]
theorem SI {a b:Nat} {d:Array XE} (hb:b≤d.size) (hs:d.size<1152921504606846976) (ha:a<1152921504606846976):
  CC As [.int .i64 (a:Int),.int .i64 (b:Int),.list aa (eA d)]=some [.list aa (eA (insertionSort aA d a b))]:=by
 refine adU ?_
 unfold Sw
 obtain ⟨j',t,h⟩:=ad9 (a:=a) (b:=b) _ (a+1) d rfl hb hs
 simp (disch:=omega) only[dL,wrap64]
 rw[h]
 rfl
theorem aea (hi first:Nat): ∀(n root:Nat) (d:Array XE),hi-root≤n→root<1152921504606846976→first+hi≤d.size→d.size<1152921504606846976→
  (∃x y z,Loop (oK CC hi first) ((root:Int),eA d)=some (.inl (x,y,z,eA (siftDown aA hi first root d))))∨
  (∃x y z,Loop (oK CC hi first) ((root:Int),eA d)=some (.inr (x,y,z,eA (siftDown aA hi first root d)))):=by
 intro n
 induction n with
 | zero=>
  intro root d hn hr hb hs
  rw[Lg,aj (by omega)]
  exact .inl ⟨(root:Int),((root*2+1:Nat):Int),true,aV (by
   simp (disch:=omega) only[oK,sy,un,AY,dL,wrap64];rw[ny (by omega)];rfl)⟩
 | succ n ih=>
  intro root d hn hr hb hs
  by_cases h1:2*root+1≥hi
  ·rw[Lg,aj h1]
   exact .inl ⟨(root:Int),((root*2+1:Nat):Int),true,aV (by
    simp (disch:=omega) only[oK,sy,un,AY,dL,wrap64];rw[ny (by omega)];rfl)⟩
  ·have go: ∀c:Nat,c<hi→root<c→(oK CC hi first ((root:Int),eA d)=
      if bX d[first+root]! d[first+c]! <0 then some (.inl ((c:Int),eA (swp d (first+root) (first+c)))) else some (.inr (.inr ((root:Int),(c:Int),true,eA d))))→
     siftDown aA hi first root d=(if bX d[first+root]! d[first+c]! <0 then siftDown aA hi first c (swp d (first+root) (first+c)) else d)→
     ((∃x y z,Loop (oK CC hi first) ((root:Int),eA d)=some (.inl (x,y,z,eA (siftDown aA hi first root d))))∨
     (∃x y z,Loop (oK CC hi first) ((root:Int),eA d)=some (.inr (x,y,z,eA (siftDown aA hi first root d))))):=by
    intro c hc hrc e1 e2
    rw[e2]
    by_cases h3:bX d[first+root]! d[first+c]! <0
    ·rw[aj h3] at e1
     rw[aj h3,bQ e1]
     exact ih c _ (by omega) (by omega) (by rw[size_swp];omega) (by rw[size_swp];omega)
    ·rw[ai h3] at e1
     rw[ai h3,aV e1]
     exact .inr ⟨_,_,_,rfl⟩
   have e0:=Lg hi first root d
   rw[ai h1] at e0
   by_cases U:2*root+2<hi
   ·rw[aj U] at e0
    by_cases h3:bX d[first+(2*root+1)]! d[first+(2*root+2)]! <0
    ·rw[aj h3] at e0
     refine go (2*root+2) (by omega) (by omega) ?_ e0
     rw[nR 2 root] at h3
     simp (disch:=omega) only[oK,sy,un,AY,dL,fM,wrap64]
     rw[az,ai (by omega),az,aj (by omega)]
     simp (disch:=omega) only[uO,az,cS,gp,aj,ai,wrap64,dL,fM,Int.toNat_natCast,Option.bind_some,fJ,fL,XE.bd,XE.bj,XE.bh,XE.re,fK,il,gG,gB,V.aW,V.toInt_int,cond_true,cond_false,nR 2 root,ny]
     by_cases h4:bX d[first+root]! d[first+(root*2+2)]! <0
     ·simp only[h4,cI];rfl
     ·simp only[h4,fg];rfl
    ·rw[ai h3] at e0
     refine go (2*root+1) (by omega) (by omega) ?_ e0
     rw[nR 2 root] at h3
     simp (disch:=omega) only[oK,sy,un,AY,dL,fM,wrap64]
     rw[az,ai (by omega),az,aj (by omega)]
     simp (disch:=omega) only[uO,az,cS,gp,aj,ai,wrap64,dL,fM,Int.toNat_natCast,Option.bind_some,fJ,fL,XE.bd,XE.bj,XE.bh,XE.re,fK,il,gG,gB,V.aW,V.toInt_int,cond_true,cond_false,nR 2 root,sx]
     by_cases h4:bX d[first+root]! d[first+(root*2+1)]! <0
     ·simp only[h4,cI];rfl
     ·simp only[h4,fg];rfl
   ·rw[ai U] at e0
    refine go (2*root+1) (by omega) (by omega) ?_ e0
    simp (disch:=omega) only[oK,sy,un,AY,dL,fM,wrap64]
    rw[az,ai (by omega),az,ai (by omega)]
    simp (disch:=omega) only[uO,az,cS,gp,aj,ai,wrap64,dL,fM,Int.toNat_natCast,Option.bind_some,fJ,fL,XE.bd,XE.bj,XE.bh,XE.re,fK,il,gG,gB,V.aW,V.toInt_int,cond_true,cond_false,nR 2 root]
    by_cases h4:bX d[first+root]! d[first+(root*2+1)]! <0
    ·simp only[h4,cI];rfl
    ·simp only[h4,fg];rfl
theorem SJ {lo hi first:Nat} {d:Array XE} (hl:lo<1152921504606846976) (hb:first+hi≤d.size) (hs:d.size<1152921504606846976):
  CC Aw [.int .i64 (lo:Int),.int .i64 (hi:Int),.int .i64 (first:Int),.list aa (eA d)]=some [.list aa (eA (siftDown aA hi first lo d))]:=by
 refine adY ?_
 unfold SA
 rcases aea hi first _ lo d (bY _) hl hb hs with ⟨x,y,z,h⟩|⟨x,y,z,h⟩
 ·rw[h];rfl
 ·rw[h];rfl
theorem SK {hi first:Nat}: ∀(k:Nat) (d:Array XE),k<1152921504606846976→first+hi≤d.size→d.size<1152921504606846976→
  ∃x y,Loop (FC CC first 0 hi) ((k:Int)-1,eA d)=some (x,y,eA (heapBuild aA hi first k d))
 | 0,d,hk,hb,hs=>⟨-1,false,aV (by
   simp (disch:=omega) only[FC,A1,un,az,ai]
   rfl)⟩
 | k+1,d,hk,hb,hs=>by
  obtain ⟨x,y,ih⟩:=SK (hi:=hi) (first:=first) k (siftDown aA hi first k d) (by omega) (by rw[AZ _ _ _ _ _ (bY _)];omega) (by rw[AZ _ _ _ _ _ (bY _)];omega)
  refine ⟨x,y,(bQ ?_).trans ih⟩
  simp (disch:=omega) only[FC,A1,un,az,aj,uN,SJ,Option.bind_some,V.aW,V.kb,wrap64]
theorem SL {first:Nat}: ∀(k:Nat) (d:Array XE),k<1152921504606846976→first+k≤d.size→d.size<1152921504606846976→
  ∃x y,Loop (FD CC first 0) ((k:Int)-1,eA d)=some (x,y,eA (heapPop aA first k d))
 | 0,d,hk,hb,hs=>⟨-1,false,aV (by
   simp (disch:=omega) only[FD,A3,un,az,ai]
   rfl)⟩
 | k+1,d,hk,hb,hs=>by
  obtain ⟨x,y,ih⟩:=SL (first:=first) k (siftDown aA k first 0 (swp d first (first+k))) (by omega) (by rw[AZ _ _ _ _ _ (bY _),size_swp];omega) (by rw[AZ _ _ _ _ _ (bY _),size_swp];omega)
  refine ⟨x,y,(bQ ?_).trans ih⟩
  have gP:=SJ (lo:=0) (hi:=k) (first:=first) (d:=swp d first (first+k)) (by omega) (by rw[size_swp];omega) (by rw[size_swp];omega)
  unfold swp at gP⊢
  rw[show ((0:Nat):Int)=0 from rfl] at gP
  simp (disch:=omega) only[FD,A3,un,uN,az,cS,gp,aj,ai,wrap64,dL,fM,Int.toNat_natCast,Option.bind_some,fJ,fL,XE.bd,XE.bj,XE.bh,XE.re,fK,il,gG,gB,V.aW,V.toInt_int,cond_true,cond_false]
  rw[gP]
  simp (disch:=omega) only[Option.bind_some,V.aW,V.kb,wrap64]
theorem aeb {a b:Nat} {d:Array XE} (e7:a<b) (hb:b≤d.size) (hs:d.size<1152921504606846976):
  CC Au [.int .i64 (a:Int),.int .i64 (b:Int),.list aa (eA d)]=some [.list aa (eA (heapSort aA d a b))]:=by
 refine ad3 ?_
 unfold SD
 obtain ⟨x,y,h1⟩:=SK (hi:=b-a) (first:=a) ((b-a-1)/2+1) d (by omega) (by omega) hs
 obtain ⟨x2,y2,U⟩:=SL (first:=a) (b-a) (heapBuild aA (b-a) a ((b-a-1)/2+1) d) (by omega) (by rw[Ld];omega) (by rw[Ld];omega)
 have e1:((((b-a-1)/2+1:Nat):Int)-1)=Int.tdiv (((b-a:Nat):Int)-1) 2:=by
  rw[Int.tdiv_eq_ediv_of_nonneg (by omega)]
  omega
 rw[e1] at h1
 simp (disch:=omega) only[mC,wrap64]
 rw[h1]
 simp only[Option.bind_some,un]
 rw[U]
 rfl
theorem aec: ∀(n i j:Nat) (d:Array XE),j-i≤n→j<d.size→d.size<1152921504606846976→
  ∃x y z,Loop (A4 CC) ((i:Int),(j:Int),eA d)=some (x,y,z,eA (reverseLoop i j d)):=by
 intro n
 induction n with
 | zero=>
  intro i j d hn hj hs
  rw[reverseLoop,ai (by omega)]
  exact ⟨(i:Int),(j:Int),false,aV (by
   simp (disch:=omega) only[A4,xD,un,sx,cond_false])⟩
 | succ n ih=>
  intro i j d hn hj hs
  rw[reverseLoop]
  by_cases h:i<j
  ·rw[aj h]
   obtain ⟨x,y,z,U⟩:=ih (i+1) (j-1) (swp d i j) (by omega) (by rw[size_swp];omega) (by rw[size_swp];omega)
   refine ⟨x,y,z,(bQ ?_).trans U⟩
   simp (disch:=omega) only[A4,xD,un,az,cS,gp,aj,ai,wrap64,dL,fM,Int.toNat_natCast,Option.bind_some,fJ,fL,XE.bd,XE.bj,XE.bh,XE.re,fK,il,gG,gB,V.aW,V.toInt_int,cond_true,cond_false,kp]
   rfl
  ·rw[ai h]
   exact ⟨(i:Int),(j:Int),false,aV (by
    simp (disch:=omega) only[A4,xD,un,sx,cond_false])⟩
theorem aed {a b:Nat} {d:Array XE} (e7:a<b) (hb:b≤d.size) (hs:d.size<1152921504606846976):
  CC EP [.int .i64 (a:Int),.int .i64 (b:Int),.list aa (eA d)]=some [.list aa (eA (reverseRange d a b))]:=by
 refine ad7 ?_
 unfold SG
 obtain ⟨x,y,z,h⟩:=aec _ a (b-1) d (bY _) (by omega) hs
 simp (disch:=omega) only[kp,wrap64]
 rw[h]
 rfl
end Go.AM.SX
set_option maxRecDepth 100000
namespace Go.AM
open Go.Proofs
noncomputable abbrev pK:Code:=cC Try.prog (ay.aT 118)
noncomputable def A5 (C:ag) (a j:Int) (ak:List V) (i:Int) {β:Type} (kn:Int→Option β) (kr:(Int × Bool)→Option β):Option β:=
 bif decide ((i:Int)≤j) then
  bif (decide (0≤i))&&(decide (i<(ak.length:Int))) then
  (ak[(i:Int).toNat]?).bind fun x5=>
  bif (decide (0≤a))&&(decide (a<(ak.length:Int))) then
   (ak[(a:Int).toNat]?).bind fun x6=>
   (C bp [.int .i64 ((x5.cell 0).toInt),.int .i64 ((x5.cell 1).toInt),.list aa ((x5.cell 2).toList),.int .i64 ((x6.cell 0).toInt),.int .i64 ((x6.cell 1).toInt),.list aa ((x6.cell 2).toList)]).bind fun r7=>
   bif decide ((((V.nth r7 0).toInt):Int)<0) then
   kn (IntKind.wrap .i64 (i+1))
   else
   kr (i,decide ((((V.nth r7 0).toInt):Int)<0))
  else none
  else none
 else
  kr (i,false)
noncomputable def A6 (C:ag) (a j:Int) (ak:List V):(Int)→Option ((Int) ⊕ (Int × Bool)):=fun i=>A5 C a j ak i (fun y=>some (.inl y)) (fun r=>some (.inr r))
noncomputable def xE (C:ag) (a i:Int) (ak:List V) (j:Int) {β:Type} (kn:Int→Option β) (kr:(Int × Bool)→Option β):Option β:=
 bif decide ((i:Int)≤j) then
  bif (decide (0≤j))&&(decide (j<(ak.length:Int))) then
  (ak[(j:Int).toNat]?).bind fun nA=>
  bif (decide (0≤a))&&(decide (a<(ak.length:Int))) then
   (ak[(a:Int).toNat]?).bind fun eV=>
   (C bp [.int .i64 ((nA.cell 0).toInt),.int .i64 ((nA.cell 1).toInt),.list aa ((nA.cell 2).toList),.int .i64 ((eV.cell 0).toInt),.int .i64 ((eV.cell 1).toInt),.list aa ((eV.cell 2).toList)]).bind fun eW=>
   bif !(decide ((((V.nth eW 0).toInt):Int)<0)) then
   kn (IntKind.wrap .i64 (j-1))
   else
   kr (j,!(decide ((((V.nth eW 0).toInt):Int)<0)))
  else none
  else none
 else
  kr (j,false)
noncomputable def xF (C:ag) (a i:Int) (ak:List V):(Int)→Option ((Int) ⊕ (Int × Bool)):=fun j=>xE C a i ak j (fun y=>some (.inl y)) (fun r=>some (.inr r))
noncomputable def A7 (C:ag) (a j:Int) (ak:List V) (i:Int) {β:Type} (kn:Int→Option β) (kr:(Int × Bool)→Option β):Option β:=
 bif decide ((i:Int)≤j) then
  bif (decide (0≤i))&&(decide (i<(ak.length:Int))) then
  (ak[(i:Int).toNat]?).bind fun jG=>
  bif (decide (0≤a))&&(decide (a<(ak.length:Int))) then
   (ak[(a:Int).toNat]?).bind fun oL=>
   (C bp [.int .i64 ((jG.cell 0).toInt),.int .i64 ((jG.cell 1).toInt),.list aa ((jG.cell 2).toList),.int .i64 ((oL.cell 0).toInt),.int .i64 ((oL.cell 1).toInt),.list aa ((oL.cell 2).toList)]).bind fun A8=>
   bif decide ((((V.nth A8 0).toInt):Int)<0) then
   kn (IntKind.wrap .i64 (i+1))
   else
   kr (i,decide ((((V.nth A8 0).toInt):Int)<0))
  else none
  else none
 else
  kr (i,false)
noncomputable def A9 (C:ag) (a j:Int) (ak:List V):(Int)→Option ((Int) ⊕ (Int × Bool)):=fun i=>A7 C a j ak i (fun y=>some (.inl y)) (fun r=>some (.inr r))
noncomputable def xG (C:ag) (a i:Int) (ak:List V) (j:Int) {β:Type} (kn:Int→Option β) (kr:(Int × Bool)→Option β):Option β:=
 bif decide ((i:Int)≤j) then
  bif (decide (0≤j))&&(decide (j<(ak.length:Int))) then
  (ak[(j:Int).toNat]?).bind fun uP=>
  bif (decide (0≤a))&&(decide (a<(ak.length:Int))) then
   (ak[(a:Int).toNat]?).bind fun uQ=>
   (C bp [.int .i64 ((uP.cell 0).toInt),.int .i64 ((uP.cell 1).toInt),.list aa ((uP.cell 2).toList),.int .i64 ((uQ.cell 0).toInt),.int .i64 ((uQ.cell 1).toInt),.list aa ((uQ.cell 2).toList)]).bind fun sB=>
   bif !(decide ((((V.nth sB 0).toInt):Int)<0)) then
   kn (IntKind.wrap .i64 (j-1))
   else
   kr (j,!(decide ((((V.nth sB 0).toInt):Int)<0)))
  else none
  else none
 else
  kr (j,false)
noncomputable def xH (C:ag) (a i:Int) (ak:List V):(Int)→Option ((Int) ⊕ (Int × Bool)):=fun j=>xG C a i ak j (fun y=>some (.inl y)) (fun r=>some (.inr r))
noncomputable def Ba (C:ag) (a i j:Int) (ak:List V) {β:Type} (kn:(Int × Int × (List V))→Option β) (kr:(Int × Int × Bool × (List V))→Option β):Option β:=
 (Loop (A9 C a j ak) i).bind (un fun (lQ:Int) (Q1:Bool)=>
  (Loop (xH C a lQ ak) j).bind (un fun (oM:Int) (aaD:Bool)=>
   bif decide ((lQ:Int)>oM) then
    kr (lQ,oM,decide ((lQ:Int)>oM),ak)
   else
    bif (decide (0≤oM))&&(decide (oM<(ak.length:Int))) then
    (ak[(oM:Int).toNat]?).bind fun qV=>
    bif (decide (0≤lQ))&&(decide (lQ<(ak.length:Int))) then
     (ak[(lQ:Int).toNat]?).bind fun Lh=>
     bif (decide (0≤lQ))&&(decide (lQ<(ak.length:Int))) then
     (ak[(lQ:Int).toNat]?).bind fun x35=>
     bif (decide (0≤oM))&&(decide (oM<((ak.set ((lQ:Int).toNat) (.agg [.int .i64 ((qV.cell 0).toInt),.int .i64 ((qV.cell 1).toInt),.list aa ((qV.cell 2).toList)])).length:Int))) then
      ((ak.set ((lQ:Int).toNat) (.agg [.int .i64 ((qV.cell 0).toInt),.int .i64 ((qV.cell 1).toInt),.list aa ((qV.cell 2).toList)]))[(oM:Int).toNat]?).bind fun x36=>
      kn (IntKind.wrap .i64 (lQ+1),IntKind.wrap .i64 (oM-1),(ak.set ((lQ:Int).toNat) (.agg [.int .i64 ((qV.cell 0).toInt),.int .i64 ((qV.cell 1).toInt),.list aa ((qV.cell 2).toList)])).set ((oM:Int).toNat) (.agg [.int .i64 ((Lh.cell 0).toInt),.int .i64 ((Lh.cell 1).toInt),.list aa ((Lh.cell 2).toList)]))
     else none
     else none
    else none
    else none))
noncomputable def xI (C:ag) (a:Int):(Int × Int × (List V))→Option ((Int × Int × (List V)) ⊕ (Int × Int × Bool × (List V))):=un fun i=>un fun j ak=>Ba C a i j ak (fun y=>some (.inl y)) (fun r=>some (.inr r))
noncomputable def SM (C:ag):cp:=fun β n ds k=>
 bif Nat.beq n 49 then bW Kn [false,true,false,false] [[1,0,3,0,4]] (@A5 C) ds k else
 bif Nat.beq n 81 then bW Ko [false,false,true,false] [[1,2,0,0,4]] (@xE C) ds k else
 bif Nat.beq n 209 then bW Kp [false,true,false,false] [[1,0,3,0,4]] (@A7 C) ds k else
 bif Nat.beq n 241 then bW Kq [false,false,true,false] [[1,2,0,0,4]] (@xG C) ds k else
 bif Nat.beq n 210 then bW Kr [false,true,true,true] [[1,0,0,0,0]] (@Ba C) ds k else
 none
abbrev Bb (C:ag) (b:cj):Prop:=cl Try.prog ay C (SM C) 118 (cH Try.prog (ay.aT 118)) (ay.sin 118).bc.length b
theorem aee (C:ag):Bb C (.loop (aw [1,1,1,0,0,0] pK)):=
 ca Kn [false,true,false,false] [[1,0,3,0,4]] (@A5 C) (by kernel_rfl) (bf (bs:=[]) (by kernel_rfl) ax) (fun ds=>by kernel_rfl) (fun i x=>by kernel_rfl) (fun i x β k=>by kernel_rfl) (fun β ds k=>by kernel_rfl)
theorem aef (C:ag):Bb C (.loop (aw [1,1,1,1,0,0,0] pK)):=
 ca Ko [false,false,true,false] [[1,2,0,0,4]] (@xE C) (by kernel_rfl) (bf (bs:=[]) (by kernel_rfl) ax) (fun ds=>by kernel_rfl) (fun i x=>by kernel_rfl) (fun i x β k=>by kernel_rfl) (fun β ds k=>by kernel_rfl)
theorem aeg (C:ag):Bb C (.loop (aw [1,1,1,1,1,1,1,1,1,0,0,0,0,0,0,0] pK)):=
 ca Kp [false,true,false,false] [[1,0,3,0,4]] (@A7 C) (by kernel_rfl) (bf (bs:=[]) (by kernel_rfl) ax) (fun ds=>by kernel_rfl) (fun i x=>by kernel_rfl) (fun i x β k=>by kernel_rfl) (fun β ds k=>by kernel_rfl)
theorem aeh (C:ag):Bb C (.loop (aw [1,1,1,1,1,1,1,1,1,0,0,0,0,1,0,0,0] pK)):=
 ca Kq [false,false,true,false] [[1,2,0,0,4]] (@xG C) (by kernel_rfl) (bf (bs:=[]) (by kernel_rfl) ax) (fun ds=>by kernel_rfl) (fun i x=>by kernel_rfl) (fun i x β k=>by kernel_rfl) (fun β ds k=>by kernel_rfl)
theorem aei (C:ag):Bb C (.loop (aw [1,1,1,1,1,1,1,1,1,0,0,0] pK)):=
 ca Kr [false,true,true,true] [[1,0,0,0,0]] (@Ba C) (by kernel_rfl) (bf (bs:=[.loop (aw [1,1,1,1,1,1,1,1,1,0,0,0,0,0,0,0] pK),.loop (aw [1,1,1,1,1,1,1,1,1,0,0,0,0,1,0,0,0] pK)]) (by kernel_rfl) (bA (aeg C) (bA (aeh C) ax))) (fun ds=>by kernel_rfl) (fun i x=>by kernel_rfl) (fun i x β k=>by kernel_rfl) (fun β ds k=>by kernel_rfl)
noncomputable def SN (C:ag) (a b' pivot:Int) (ak:List V):Option (List V):=
 bif (decide (0≤pivot))&&(decide (pivot<(ak.length:Int))) then
  (ak[(pivot:Int).toNat]?).bind fun x1=>
  bif (decide (0≤a))&&(decide (a<(ak.length:Int))) then
  (ak[(a:Int).toNat]?).bind fun x2=>
  bif (decide (0≤a))&&(decide (a<(ak.length:Int))) then
   (ak[(a:Int).toNat]?).bind fun x3=>
   bif (decide (0≤pivot))&&(decide (pivot<((ak.set ((a:Int).toNat) (.agg [.int .i64 ((x1.cell 0).toInt),.int .i64 ((x1.cell 1).toInt),.list aa ((x1.cell 2).toList)])).length:Int))) then
   ((ak.set ((a:Int).toNat) (.agg [.int .i64 ((x1.cell 0).toInt),.int .i64 ((x1.cell 1).toInt),.list aa ((x1.cell 2).toList)]))[(pivot:Int).toNat]?).bind fun x4=>
   (Loop (A6 C a (IntKind.wrap .i64 (b'-1)) ((ak.set ((a:Int).toNat) (.agg [.int .i64 ((x1.cell 0).toInt),.int .i64 ((x1.cell 1).toInt),.list aa ((x1.cell 2).toList)])).set ((pivot:Int).toNat) (.agg [.int .i64 ((x2.cell 0).toInt),.int .i64 ((x2.cell 1).toInt),.list aa ((x2.cell 2).toList)]))) (IntKind.wrap .i64 (a+1))).bind (un fun (eX:Int) (sk:Bool)=>
    (Loop (xF C a eX ((ak.set ((a:Int).toNat) (.agg [.int .i64 ((x1.cell 0).toInt),.int .i64 ((x1.cell 1).toInt),.list aa ((x1.cell 2).toList)])).set ((pivot:Int).toNat) (.agg [.int .i64 ((x2.cell 0).toInt),.int .i64 ((x2.cell 1).toInt),.list aa ((x2.cell 2).toList)]))) (IntKind.wrap .i64 (b'-1))).bind (un fun (eu:Int) (xc:Bool)=>
     bif decide ((eX:Int)>eu) then
      bif (decide (0≤a))&&(decide (a<(((ak.set ((a:Int).toNat) (.agg [.int .i64 ((x1.cell 0).toInt),.int .i64 ((x1.cell 1).toInt),.list aa ((x1.cell 2).toList)])).set ((pivot:Int).toNat) (.agg [.int .i64 ((x2.cell 0).toInt),.int .i64 ((x2.cell 1).toInt),.list aa ((x2.cell 2).toList)])).length:Int))) then
      (((ak.set ((a:Int).toNat) (.agg [.int .i64 ((x1.cell 0).toInt),.int .i64 ((x1.cell 1).toInt),.list aa ((x1.cell 2).toList)])).set ((pivot:Int).toNat) (.agg [.int .i64 ((x2.cell 0).toInt),.int .i64 ((x2.cell 1).toInt),.list aa ((x2.cell 2).toList)]))[(a:Int).toNat]?).bind fun fN=>
      bif (decide (0≤eu))&&(decide (eu<(((ak.set ((a:Int).toNat) (.agg [.int .i64 ((x1.cell 0).toInt),.int .i64 ((x1.cell 1).toInt),.list aa ((x1.cell 2).toList)])).set ((pivot:Int).toNat) (.agg [.int .i64 ((x2.cell 0).toInt),.int .i64 ((x2.cell 1).toInt),.list aa ((x2.cell 2).toList)])).length:Int))) then
       (((ak.set ((a:Int).toNat) (.agg [.int .i64 ((x1.cell 0).toInt),.int .i64 ((x1.cell 1).toInt),.list aa ((x1.cell 2).toList)])).set ((pivot:Int).toNat) (.agg [.int .i64 ((x2.cell 0).toInt),.int .i64 ((x2.cell 1).toInt),.list aa ((x2.cell 2).toList)]))[(eu:Int).toNat]?).bind fun fb=>
       bif (decide (0≤eu))&&(decide (eu<(((ak.set ((a:Int).toNat) (.agg [.int .i64 ((x1.cell 0).toInt),.int .i64 ((x1.cell 1).toInt),.list aa ((x1.cell 2).toList)])).set ((pivot:Int).toNat) (.agg [.int .i64 ((x2.cell 0).toInt),.int .i64 ((x2.cell 1).toInt),.list aa ((x2.cell 2).toList)])).length:Int))) then
       (((ak.set ((a:Int).toNat) (.agg [.int .i64 ((x1.cell 0).toInt),.int .i64 ((x1.cell 1).toInt),.list aa ((x1.cell 2).toList)])).set ((pivot:Int).toNat) (.agg [.int .i64 ((x2.cell 0).toInt),.int .i64 ((x2.cell 1).toInt),.list aa ((x2.cell 2).toList)]))[(eu:Int).toNat]?).bind fun qS=>
       bif (decide (0≤a))&&(decide (a<((((ak.set ((a:Int).toNat) (.agg [.int .i64 ((x1.cell 0).toInt),.int .i64 ((x1.cell 1).toInt),.list aa ((x1.cell 2).toList)])).set ((pivot:Int).toNat) (.agg [.int .i64 ((x2.cell 0).toInt),.int .i64 ((x2.cell 1).toInt),.list aa ((x2.cell 2).toList)])).set ((eu:Int).toNat) (.agg [.int .i64 ((fN.cell 0).toInt),.int .i64 ((fN.cell 1).toInt),.list aa ((fN.cell 2).toList)])).length:Int))) then
        ((((ak.set ((a:Int).toNat) (.agg [.int .i64 ((x1.cell 0).toInt),.int .i64 ((x1.cell 1).toInt),.list aa ((x1.cell 2).toList)])).set ((pivot:Int).toNat) (.agg [.int .i64 ((x2.cell 0).toInt),.int .i64 ((x2.cell 1).toInt),.list aa ((x2.cell 2).toList)])).set ((eu:Int).toNat) (.agg [.int .i64 ((fN.cell 0).toInt),.int .i64 ((fN.cell 1).toInt),.list aa ((fN.cell 2).toList)]))[(a:Int).toNat]?).bind fun jk=>
        some [.int .i64 eu,.bool true,.list aa ((((ak.set ((a:Int).toNat) (.agg [.int .i64 ((x1.cell 0).toInt),.int .i64 ((x1.cell 1).toInt),.list aa ((x1.cell 2).toList)])).set ((pivot:Int).toNat) (.agg [.int .i64 ((x2.cell 0).toInt),.int .i64 ((x2.cell 1).toInt),.list aa ((x2.cell 2).toList)])).set ((eu:Int).toNat) (.agg [.int .i64 ((fN.cell 0).toInt),.int .i64 ((fN.cell 1).toInt),.list aa ((fN.cell 2).toList)])).set ((a:Int).toNat) (.agg [.int .i64 ((fb.cell 0).toInt),.int .i64 ((fb.cell 1).toInt),.list aa ((fb.cell 2).toList)]))]
       else none
       else none
      else none
      else none
     else
      bif (decide (0≤eu))&&(decide (eu<(((ak.set ((a:Int).toNat) (.agg [.int .i64 ((x1.cell 0).toInt),.int .i64 ((x1.cell 1).toInt),.list aa ((x1.cell 2).toList)])).set ((pivot:Int).toNat) (.agg [.int .i64 ((x2.cell 0).toInt),.int .i64 ((x2.cell 1).toInt),.list aa ((x2.cell 2).toList)])).length:Int))) then
      (((ak.set ((a:Int).toNat) (.agg [.int .i64 ((x1.cell 0).toInt),.int .i64 ((x1.cell 1).toInt),.list aa ((x1.cell 2).toList)])).set ((pivot:Int).toNat) (.agg [.int .i64 ((x2.cell 0).toInt),.int .i64 ((x2.cell 1).toInt),.list aa ((x2.cell 2).toList)]))[(eu:Int).toNat]?).bind fun pJ=>
      bif (decide (0≤eX))&&(decide (eX<(((ak.set ((a:Int).toNat) (.agg [.int .i64 ((x1.cell 0).toInt),.int .i64 ((x1.cell 1).toInt),.list aa ((x1.cell 2).toList)])).set ((pivot:Int).toNat) (.agg [.int .i64 ((x2.cell 0).toInt),.int .i64 ((x2.cell 1).toInt),.list aa ((x2.cell 2).toList)])).length:Int))) then
       (((ak.set ((a:Int).toNat) (.agg [.int .i64 ((x1.cell 0).toInt),.int .i64 ((x1.cell 1).toInt),.list aa ((x1.cell 2).toList)])).set ((pivot:Int).toNat) (.agg [.int .i64 ((x2.cell 0).toInt),.int .i64 ((x2.cell 1).toInt),.list aa ((x2.cell 2).toList)]))[(eX:Int).toNat]?).bind fun uR=>
       bif (decide (0≤eX))&&(decide (eX<(((ak.set ((a:Int).toNat) (.agg [.int .i64 ((x1.cell 0).toInt),.int .i64 ((x1.cell 1).toInt),.list aa ((x1.cell 2).toList)])).set ((pivot:Int).toNat) (.agg [.int .i64 ((x2.cell 0).toInt),.int .i64 ((x2.cell 1).toInt),.list aa ((x2.cell 2).toList)])).length:Int))) then
       (((ak.set ((a:Int).toNat) (.agg [.int .i64 ((x1.cell 0).toInt),.int .i64 ((x1.cell 1).toInt),.list aa ((x1.cell 2).toList)])).set ((pivot:Int).toNat) (.agg [.int .i64 ((x2.cell 0).toInt),.int .i64 ((x2.cell 1).toInt),.list aa ((x2.cell 2).toList)]))[(eX:Int).toNat]?).bind fun FE=>
       bif (decide (0≤eu))&&(decide (eu<((((ak.set ((a:Int).toNat) (.agg [.int .i64 ((x1.cell 0).toInt),.int .i64 ((x1.cell 1).toInt),.list aa ((x1.cell 2).toList)])).set ((pivot:Int).toNat) (.agg [.int .i64 ((x2.cell 0).toInt),.int .i64 ((x2.cell 1).toInt),.list aa ((x2.cell 2).toList)])).set ((eX:Int).toNat) (.agg [.int .i64 ((pJ.cell 0).toInt),.int .i64 ((pJ.cell 1).toInt),.list aa ((pJ.cell 2).toList)])).length:Int))) then
        ((((ak.set ((a:Int).toNat) (.agg [.int .i64 ((x1.cell 0).toInt),.int .i64 ((x1.cell 1).toInt),.list aa ((x1.cell 2).toList)])).set ((pivot:Int).toNat) (.agg [.int .i64 ((x2.cell 0).toInt),.int .i64 ((x2.cell 1).toInt),.list aa ((x2.cell 2).toList)])).set ((eX:Int).toNat) (.agg [.int .i64 ((pJ.cell 0).toInt),.int .i64 ((pJ.cell 1).toInt),.list aa ((pJ.cell 2).toList)]))[(eu:Int).toNat]?).bind fun x22=>
        (Loop (xI C a) (IntKind.wrap .i64 (eX+1),IntKind.wrap .i64 (eu-1),(((ak.set ((a:Int).toNat) (.agg [.int .i64 ((x1.cell 0).toInt),.int .i64 ((x1.cell 1).toInt),.list aa ((x1.cell 2).toList)])).set ((pivot:Int).toNat) (.agg [.int .i64 ((x2.cell 0).toInt),.int .i64 ((x2.cell 1).toInt),.list aa ((x2.cell 2).toList)])).set ((eX:Int).toNat) (.agg [.int .i64 ((pJ.cell 0).toInt),.int .i64 ((pJ.cell 1).toInt),.list aa ((pJ.cell 2).toList)])).set ((eu:Int).toNat) (.agg [.int .i64 ((uR.cell 0).toInt),.int .i64 ((uR.cell 1).toInt),.list aa ((uR.cell 2).toList)]))).bind (un fun (abc:Int)=>un fun (pL:Int)=>un fun (Q5:Bool) (jK:List V)=>
         bif (decide (0≤a))&&(decide (a<(jK.length:Int))) then
         (jK[(a:Int).toNat]?).bind fun mE=>
         bif (decide (0≤pL))&&(decide (pL<(jK.length:Int))) then
          (jK[(pL:Int).toNat]?).bind fun uS=>
          bif (decide (0≤pL))&&(decide (pL<(jK.length:Int))) then
          (jK[(pL:Int).toNat]?).bind fun x43=>
          bif (decide (0≤a))&&(decide (a<((jK.set ((pL:Int).toNat) (.agg [.int .i64 ((mE.cell 0).toInt),.int .i64 ((mE.cell 1).toInt),.list aa ((mE.cell 2).toList)])).length:Int))) then
           ((jK.set ((pL:Int).toNat) (.agg [.int .i64 ((mE.cell 0).toInt),.int .i64 ((mE.cell 1).toInt),.list aa ((mE.cell 2).toList)]))[(a:Int).toNat]?).bind fun x44=>
           some [.int .i64 pL,.bool false,.list aa ((jK.set ((pL:Int).toNat) (.agg [.int .i64 ((mE.cell 0).toInt),.int .i64 ((mE.cell 1).toInt),.list aa ((mE.cell 2).toList)])).set ((a:Int).toNat) (.agg [.int .i64 ((uS.cell 0).toInt),.int .i64 ((uS.cell 1).toInt),.list aa ((uS.cell 2).toList)]))]
          else none
          else none
         else none
         else none)
       else none
       else none
      else none
      else none))
   else none
  else none
  else none
 else none
theorem aej {a b' pivot:Int} {ak:List V} {r:Option (List V)} (h:SN CC a b' pivot ak=r):CC np [.int .i64 a,.int .i64 b',.int .i64 pivot,.list aa ak]=r:=
 a9 (key:=118) (L:=SM CC) (bs:=[.loop (aw [1,1,1,0,0,0] pK),.loop (aw [1,1,1,1,0,0,0] pK),.loop (aw [1,1,1,1,1,1,1,1,1,0,0,0] pK)]) (by kernel_rfl) (bA (aee CC) (bA (aef CC) (bA (aei CC) ax))) (aZ (by kernel_rfl) h)
noncomputable abbrev xJ:Code:=cC Try.prog (ay.aT 117)
noncomputable def Bc (C:ag) (a j:Int) (ak:List V) (i:Int) {β:Type} (kn:Int→Option β) (kr:(Int × Bool)→Option β):Option β:=
 bif decide ((i:Int)≤j) then
  bif (decide (0≤a))&&(decide (a<(ak.length:Int))) then
  (ak[(a:Int).toNat]?).bind fun x5=>
  bif (decide (0≤i))&&(decide (i<(ak.length:Int))) then
   (ak[(i:Int).toNat]?).bind fun x6=>
   (C bp [.int .i64 ((x5.cell 0).toInt),.int .i64 ((x5.cell 1).toInt),.list aa ((x5.cell 2).toList),.int .i64 ((x6.cell 0).toInt),.int .i64 ((x6.cell 1).toInt),.list aa ((x6.cell 2).toList)]).bind fun r7=>
   bif !(decide ((((V.nth r7 0).toInt):Int)<0)) then
   kn (IntKind.wrap .i64 (i+1))
   else
   kr (i,!(decide ((((V.nth r7 0).toInt):Int)<0)))
  else none
  else none
 else
  kr (i,false)
noncomputable def Bd (C:ag) (a j:Int) (ak:List V):(Int)→Option ((Int) ⊕ (Int × Bool)):=fun i=>Bc C a j ak i (fun y=>some (.inl y)) (fun r=>some (.inr r))
noncomputable def xK (C:ag) (a i:Int) (ak:List V) (j:Int) {β:Type} (kn:Int→Option β) (kr:(Int × Bool)→Option β):Option β:=
 bif decide ((i:Int)≤j) then
  bif (decide (0≤a))&&(decide (a<(ak.length:Int))) then
  (ak[(a:Int).toNat]?).bind fun nA=>
  bif (decide (0≤j))&&(decide (j<(ak.length:Int))) then
   (ak[(j:Int).toNat]?).bind fun eV=>
   (C bp [.int .i64 ((nA.cell 0).toInt),.int .i64 ((nA.cell 1).toInt),.list aa ((nA.cell 2).toList),.int .i64 ((eV.cell 0).toInt),.int .i64 ((eV.cell 1).toInt),.list aa ((eV.cell 2).toList)]).bind fun eW=>
   bif decide ((((V.nth eW 0).toInt):Int)<0) then
   kn (IntKind.wrap .i64 (j-1))
   else
   kr (j,decide ((((V.nth eW 0).toInt):Int)<0))
  else none
  else none
 else
  kr (j,false)
noncomputable def xL (C:ag) (a i:Int) (ak:List V):(Int)→Option ((Int) ⊕ (Int × Bool)):=fun j=>xK C a i ak j (fun y=>some (.inl y)) (fun r=>some (.inr r))
noncomputable def Be (C:ag) (a i j:Int) (ak:List V) {β:Type} (kn:(Int × Int × (List V))→Option β) (kr:(Int × Int × Bool × (List V))→Option β):Option β:=
 (Loop (Bd C a j ak) i).bind (un fun (eX:Int) (sk:Bool)=>
  (Loop (xL C a eX ak) j).bind (un fun (eu:Int) (xc:Bool)=>
   bif decide ((eX:Int)>eu) then
    kr (eX,eu,decide ((eX:Int)>eu),ak)
   else
    bif (decide (0≤eu))&&(decide (eu<(ak.length:Int))) then
    (ak[(eu:Int).toNat]?).bind fun fN=>
    bif (decide (0≤eX))&&(decide (eX<(ak.length:Int))) then
     (ak[(eX:Int).toNat]?).bind fun fb=>
     bif (decide (0≤eX))&&(decide (eX<(ak.length:Int))) then
     (ak[(eX:Int).toNat]?).bind fun qS=>
     bif (decide (0≤eu))&&(decide (eu<((ak.set ((eX:Int).toNat) (.agg [.int .i64 ((fN.cell 0).toInt),.int .i64 ((fN.cell 1).toInt),.list aa ((fN.cell 2).toList)])).length:Int))) then
      ((ak.set ((eX:Int).toNat) (.agg [.int .i64 ((fN.cell 0).toInt),.int .i64 ((fN.cell 1).toInt),.list aa ((fN.cell 2).toList)]))[(eu:Int).toNat]?).bind fun jk=>
      kn (IntKind.wrap .i64 (eX+1),IntKind.wrap .i64 (eu-1),(ak.set ((eX:Int).toNat) (.agg [.int .i64 ((fN.cell 0).toInt),.int .i64 ((fN.cell 1).toInt),.list aa ((fN.cell 2).toList)])).set ((eu:Int).toNat) (.agg [.int .i64 ((fb.cell 0).toInt),.int .i64 ((fb.cell 1).toInt),.list aa ((fb.cell 2).toList)]))
     else none
     else none
    else none
    else none))
noncomputable def xM (C:ag) (a:Int):(Int × Int × (List V))→Option ((Int × Int × (List V)) ⊕ (Int × Int × Bool × (List V))):=un fun i=>un fun j ak=>Be C a i j ak (fun y=>some (.inl y)) (fun r=>some (.inr r))
noncomputable def SO (C:ag):cp:=fun β n ds k=>
 bif Nat.beq n 49 then bW Kk [false,true,false,false] [[1,0,3,0,4]] (@Bc C) ds k else
 bif Nat.beq n 81 then bW Kl [false,false,true,false] [[1,2,0,0,4]] (@xK C) ds k else
 bif Nat.beq n 50 then bW Km [false,true,true,true] [[1,0,0,0,0]] (@Be C) ds k else
 none
abbrev Li (C:ag) (b:cj):Prop:=cl Try.prog ay C (SO C) 117 (cH Try.prog (ay.aT 117)) (ay.sin 117).bc.length b
theorem aek (C:ag):Li C (.loop (aw [1,1,1,0,0,0,0,0,0,0] xJ)):=
 ca Kk [false,true,false,false] [[1,0,3,0,4]] (@Bc C) (by kernel_rfl) (bf (bs:=[]) (by kernel_rfl) ax) (fun ds=>by kernel_rfl) (fun i x=>by kernel_rfl) (fun i x β k=>by kernel_rfl) (fun β ds k=>by kernel_rfl)
theorem ael (C:ag):Li C (.loop (aw [1,1,1,0,0,0,0,1,0,0,0] xJ)):=
 ca Kl [false,false,true,false] [[1,2,0,0,4]] (@xK C) (by kernel_rfl) (bf (bs:=[]) (by kernel_rfl) ax) (fun ds=>by kernel_rfl) (fun i x=>by kernel_rfl) (fun i x β k=>by kernel_rfl) (fun β ds k=>by kernel_rfl)
theorem aem (C:ag):Li C (.loop (aw [1,1,1,0,0,0] xJ)):=
 ca Km [false,true,true,true] [[1,0,0,0,0]] (@Be C) (by kernel_rfl) (bf (bs:=[.loop (aw [1,1,1,0,0,0,0,0,0,0] xJ),.loop (aw [1,1,1,0,0,0,0,1,0,0,0] xJ)]) (by kernel_rfl) (bA (aek C) (bA (ael C) ax))) (fun ds=>by kernel_rfl) (fun i x=>by kernel_rfl) (fun i x β k=>by kernel_rfl) (fun β ds k=>by kernel_rfl)
noncomputable def SP (C:ag) (a b' pivot:Int) (ak:List V):Option (List V):=
 bif (decide (0≤pivot))&&(decide (pivot<(ak.length:Int))) then
  (ak[(pivot:Int).toNat]?).bind fun x1=>
  bif (decide (0≤a))&&(decide (a<(ak.length:Int))) then
  (ak[(a:Int).toNat]?).bind fun x2=>
  bif (decide (0≤a))&&(decide (a<(ak.length:Int))) then
   (ak[(a:Int).toNat]?).bind fun x3=>
   bif (decide (0≤pivot))&&(decide (pivot<((ak.set ((a:Int).toNat) (.agg [.int .i64 ((x1.cell 0).toInt),.int .i64 ((x1.cell 1).toInt),.list aa ((x1.cell 2).toList)])).length:Int))) then
   ((ak.set ((a:Int).toNat) (.agg [.int .i64 ((x1.cell 0).toInt),.int .i64 ((x1.cell 1).toInt),.list aa ((x1.cell 2).toList)]))[(pivot:Int).toNat]?).bind fun x4=>
   (Loop (xM C a) (IntKind.wrap .i64 (a+1),IntKind.wrap .i64 (b'-1),(ak.set ((a:Int).toNat) (.agg [.int .i64 ((x1.cell 0).toInt),.int .i64 ((x1.cell 1).toInt),.list aa ((x1.cell 2).toList)])).set ((pivot:Int).toNat) (.agg [.int .i64 ((x2.cell 0).toInt),.int .i64 ((x2.cell 1).toInt),.list aa ((x2.cell 2).toList)]))).bind (un fun (aen:Int)=>un fun (aj2:Int)=>un fun (Fh:Bool) (aeo:List V)=>
    some [.int .i64 aen,.list aa aeo])
   else none
  else none
  else none
 else none
theorem aep {a b' pivot:Int} {ak:List V} {r:Option (List V)} (h:SP CC a b' pivot ak=r):CC ur [.int .i64 a,.int .i64 b',.int .i64 pivot,.list aa ak]=r:=
 a9 (key:=117) (L:=SO CC) (bs:=[.loop (aw [1,1,1,0,0,0] xJ)]) (by kernel_rfl) (bA (aem CC) ax) (aZ (by kernel_rfl) h)
noncomputable abbrev nD:Code:=cC Try.prog (ay.aT 116)
noncomputable def Bf (C:ag) (a b' j:Int) (ak:List V) (i:Int) {β:Type} (kn:Int→Option β) (kr:(Int × Bool)→Option β):Option β:=
 bif decide ((i:Int)<b') then
  bif (decide (0≤i))&&(decide (i<(ak.length:Int))) then
  (ak[(i:Int).toNat]?).bind fun x1=>
  bif (decide (0≤(IntKind.wrap .i64 (i-1))))&&(decide ((IntKind.wrap .i64 (i-1))<(ak.length:Int))) then
   (ak[(IntKind.wrap .i64 (i-1):Int).toNat]?).bind fun x2=>
   (C bp [.int .i64 ((x1.cell 0).toInt),.int .i64 ((x1.cell 1).toInt),.list aa ((x1.cell 2).toList),.int .i64 ((x2.cell 0).toInt),.int .i64 ((x2.cell 1).toInt),.list aa ((x2.cell 2).toList)]).bind fun r3=>
   bif !(decide ((((V.nth r3 0).toInt):Int)<0)) then
   kn (IntKind.wrap .i64 (i+1))
   else
   kr (i,!(decide ((((V.nth r3 0).toInt):Int)<0)))
  else none
  else none
 else
  kr (i,false)
noncomputable def Bg (C:ag) (a b' j:Int) (ak:List V):(Int)→Option ((Int) ⊕ (Int × Bool)):=fun i=>Bf C a b' j ak i (fun y=>some (.inl y)) (fun r=>some (.inr r))
noncomputable def Bh (C:ag) (a b' i j j':Int) (ak:List V) {β:Type} (kn:(Int × (List V))→Option β) (kr:(Int × (List V))→Option β):Option β:=
 bif decide ((j':Int)≥1) then
  bif (decide (0≤j'))&&(decide (j'<(ak.length:Int))) then
  (ak[(j':Int).toNat]?).bind fun nA=>
  bif (decide (0≤(IntKind.wrap .i64 (j'-1))))&&(decide ((IntKind.wrap .i64 (j'-1))<(ak.length:Int))) then
   (ak[(IntKind.wrap .i64 (j'-1):Int).toNat]?).bind fun eV=>
   (C bp [.int .i64 ((nA.cell 0).toInt),.int .i64 ((nA.cell 1).toInt),.list aa ((nA.cell 2).toList),.int .i64 ((eV.cell 0).toInt),.int .i64 ((eV.cell 1).toInt),.list aa ((eV.cell 2).toList)]).bind fun eW=>
   bif !(decide ((((V.nth eW 0).toInt):Int)<0)) then
   kr (j',ak)
   else
   bif (decide (0≤(IntKind.wrap .i64 (j'-1))))&&(decide ((IntKind.wrap .i64 (j'-1))<(ak.length:Int))) then
    (ak[(IntKind.wrap .i64 (j'-1):Int).toNat]?).bind fun jI=>
    bif (decide (0≤j'))&&(decide (j'<(ak.length:Int))) then
    (ak[(j':Int).toNat]?).bind fun nC=>
    bif (decide (0≤j'))&&(decide (j'<(ak.length:Int))) then
     (ak[(j':Int).toNat]?).bind fun fN=>
     bif (decide (0≤(IntKind.wrap .i64 (j'-1))))&&(decide ((IntKind.wrap .i64 (j'-1))<((ak.set ((j':Int).toNat) (.agg [.int .i64 ((jI.cell 0).toInt),.int .i64 ((jI.cell 1).toInt),.list aa ((jI.cell 2).toList)])).length:Int))) then
     ((ak.set ((j':Int).toNat) (.agg [.int .i64 ((jI.cell 0).toInt),.int .i64 ((jI.cell 1).toInt),.list aa ((jI.cell 2).toList)]))[(IntKind.wrap .i64 (j'-1):Int).toNat]?).bind fun fb=>
     kn (IntKind.wrap .i64 (j'-1),(ak.set ((j':Int).toNat) (.agg [.int .i64 ((jI.cell 0).toInt),.int .i64 ((jI.cell 1).toInt),.list aa ((jI.cell 2).toList)])).set ((IntKind.wrap .i64 (j'-1):Int).toNat) (.agg [.int .i64 ((nC.cell 0).toInt),.int .i64 ((nC.cell 1).toInt),.list aa ((nC.cell 2).toList)]))
     else none
    else none
    else none
   else none
  else none
  else none
 else
  kr (j',ak)
noncomputable def Bi (C:ag) (a b' i j:Int):(Int × (List V))→Option ((Int × (List V)) ⊕ (Int × (List V))):=un fun j' ak=>Bh C a b' i j j' ak (fun y=>some (.inl y)) (fun r=>some (.inr r))
noncomputable def FF (C:ag) (a b' i j:Int) (t65:Bool) (ak:List V) {β:Type} (kr:(List V)→Option β):Option β:=
 bif t65 then
  (Loop (Bi C a b' i j) (IntKind.wrap .i64 (i-1),ak)).bind (un fun (aj3:Int) (aeq:List V)=>
   kr aeq)
 else
  kr ak
noncomputable def Bj (C:ag) (a b' i j j':Int) (ak:List V) {β:Type} (kn:(Int × (List V))→Option β) (kr:(Int × (List V))→Option β):Option β:=
 bif decide ((j':Int)<b') then
  bif (decide (0≤j'))&&(decide (j'<(ak.length:Int))) then
  (ak[(j':Int).toNat]?).bind fun uR=>
  bif (decide (0≤(IntKind.wrap .i64 (j'-1))))&&(decide ((IntKind.wrap .i64 (j'-1))<(ak.length:Int))) then
   (ak[(IntKind.wrap .i64 (j'-1):Int).toNat]?).bind fun FE=>
   (C bp [.int .i64 ((uR.cell 0).toInt),.int .i64 ((uR.cell 1).toInt),.list aa ((uR.cell 2).toList),.int .i64 ((FE.cell 0).toInt),.int .i64 ((FE.cell 1).toInt),.list aa ((FE.cell 2).toList)]).bind fun gC=>
   bif !(decide ((((V.nth gC 0).toInt):Int)<0)) then
   kr (j',ak)
   else
   bif (decide (0≤(IntKind.wrap .i64 (j'-1))))&&(decide ((IntKind.wrap .i64 (j'-1))<(ak.length:Int))) then
    (ak[(IntKind.wrap .i64 (j'-1):Int).toNat]?).bind fun jG=>
    bif (decide (0≤j'))&&(decide (j'<(ak.length:Int))) then
    (ak[(j':Int).toNat]?).bind fun oL=>
    bif (decide (0≤j'))&&(decide (j'<(ak.length:Int))) then
     (ak[(j':Int).toNat]?).bind fun x25=>
     bif (decide (0≤(IntKind.wrap .i64 (j'-1))))&&(decide ((IntKind.wrap .i64 (j'-1))<((ak.set ((j':Int).toNat) (.agg [.int .i64 ((jG.cell 0).toInt),.int .i64 ((jG.cell 1).toInt),.list aa ((jG.cell 2).toList)])).length:Int))) then
     ((ak.set ((j':Int).toNat) (.agg [.int .i64 ((jG.cell 0).toInt),.int .i64 ((jG.cell 1).toInt),.list aa ((jG.cell 2).toList)]))[(IntKind.wrap .i64 (j'-1):Int).toNat]?).bind fun nE=>
     kn (IntKind.wrap .i64 (j'+1),(ak.set ((j':Int).toNat) (.agg [.int .i64 ((jG.cell 0).toInt),.int .i64 ((jG.cell 1).toInt),.list aa ((jG.cell 2).toList)])).set ((IntKind.wrap .i64 (j'-1):Int).toNat) (.agg [.int .i64 ((oL.cell 0).toInt),.int .i64 ((oL.cell 1).toInt),.list aa ((oL.cell 2).toList)]))
     else none
    else none
    else none
   else none
  else none
  else none
 else
  kr (j',ak)
noncomputable def Bk (C:ag) (a b' i j:Int):(Int × (List V))→Option ((Int × (List V)) ⊕ (Int × (List V))):=un fun j' ak=>Bj C a b' i j j' ak (fun y=>some (.inl y)) (fun r=>some (.inr r))
noncomputable def Bl (C:ag) (a b' i j:Int) (ak:List V) {β:Type} (kn:(Int × Int × (List V))→Option β) (kr:((Bool × (List V)) ⊕ (Int × Int × Bool × (List V)))→Option β):Option β:=
 bif decide ((j:Int)<5) then
  (Loop (Bg C a b' j ak) i).bind (un fun (fc:Int) (oG:Bool)=>
   bif (fc:Int)==b' then
   kr (.inl (true,ak))
   else
   bif decide (((IntKind.wrap .i64 (b'-a)):Int)<50) then
    kr (.inl (false,ak))
   else
    bif (decide (0≤(IntKind.wrap .i64 (fc-1))))&&(decide ((IntKind.wrap .i64 (fc-1))<(ak.length:Int))) then
    (ak[(IntKind.wrap .i64 (fc-1):Int).toNat]?).bind fun x6=>
    bif (decide (0≤fc))&&(decide (fc<(ak.length:Int))) then
     (ak[(fc:Int).toNat]?).bind fun x7=>
     bif (decide (0≤fc))&&(decide (fc<(ak.length:Int))) then
     (ak[(fc:Int).toNat]?).bind fun x8=>
     bif (decide (0≤(IntKind.wrap .i64 (fc-1))))&&(decide ((IntKind.wrap .i64 (fc-1))<((ak.set ((fc:Int).toNat) (.agg [.int .i64 ((x6.cell 0).toInt),.int .i64 ((x6.cell 1).toInt),.list aa ((x6.cell 2).toList)])).length:Int))) then
      ((ak.set ((fc:Int).toNat) (.agg [.int .i64 ((x6.cell 0).toInt),.int .i64 ((x6.cell 1).toInt),.list aa ((x6.cell 2).toList)]))[(IntKind.wrap .i64 (fc-1):Int).toNat]?).bind fun x9=>
      FF C a b' fc j (decide (((IntKind.wrap .i64 (fc-a)):Int)≥2)) ((ak.set ((fc:Int).toNat) (.agg [.int .i64 ((x6.cell 0).toInt),.int .i64 ((x6.cell 1).toInt),.list aa ((x6.cell 2).toList)])).set ((IntKind.wrap .i64 (fc-1):Int).toNat) (.agg [.int .i64 ((x7.cell 0).toInt),.int .i64 ((x7.cell 1).toInt),.list aa ((x7.cell 2).toList)])) (fun (SQ:List V)=>
       bif decide (((IntKind.wrap .i64 (b'-fc)):Int)≥2) then
       (Loop (Bk C a b' fc j) (IntKind.wrap .i64 (fc+1),SQ)).bind (un fun (aj4:Int) (aer:List V)=>
        kn (fc,IntKind.wrap .i64 (j+1),aer))
       else
       kn (fc,IntKind.wrap .i64 (j+1),SQ))
     else none
     else none
    else none
    else none)
 else
  kr (.inr (i,j,decide ((j:Int)<5),ak))
noncomputable def sC (C:ag) (a b':Int):(Int × Int × (List V))→Option ((Int × Int × (List V)) ⊕ ((Bool × (List V)) ⊕ (Int × Int × Bool × (List V)))):=un fun i=>un fun j ak=>Bl C a b' i j ak (fun y=>some (.inl y)) (fun r=>some (.inr r))
noncomputable def SR (C:ag):cp:=fun β n ds k=>
 bif Nat.beq n 81 then bW Kf [false,false,true,false,false] [[1,2,0,4,0,5]] (@Bf C) ds k else
 bif Nat.beq n 225 then bW Kg [false,false,false,false,true,true] [[1,2,3,4,0,0]] (@Bh C) ds k else
 bif Nat.beq n 1055 then iN Kh [[1,2,3,4,0]] (@FF C) ds k else
 bif Nat.beq n 321 then bW Ki [false,false,false,false,true,true] [[1,2,3,4,0,0]] (@Bj C) ds k else
 bif Nat.beq n 49 then bW Kj [false,false,true,true,true] [[0,0],[1,2,0,0,0,0]] (@Bl C) ds k else
 none
abbrev Bm (C:ag) (b:cj):Prop:=cl Try.prog ay C (SR C) 116 (cH Try.prog (ay.aT 116)) (ay.sin 116).bc.length b
theorem aes (C:ag):Bm C (.loop (aw [1,1,0,1,0,0,1,0,0,0,0,0] nD)):=
 ca Kf [false,false,true,false,false] [[1,2,0,4,0,5]] (@Bf C) (by kernel_rfl) (bf (bs:=[]) (by kernel_rfl) ax) (fun ds=>by kernel_rfl) (fun i x=>by kernel_rfl) (fun i x β k=>by kernel_rfl) (fun β ds k=>by kernel_rfl)
theorem aet (C:ag):Bm C (.loop (aw [1,1,0,1,0,0,1,0,0,1,1,1,1,0,1,0,1,0,0] nD)):=
 ca Kg [false,false,false,false,true,true] [[1,2,3,4,0,0]] (@Bh C) (by kernel_rfl) (bf (bs:=[]) (by kernel_rfl) ax) (fun ds=>by kernel_rfl) (fun i x=>by kernel_rfl) (fun i x β k=>by kernel_rfl) (fun β ds k=>by kernel_rfl)
theorem aeu (C:ag):Bm C (.cond 65 (aw [1,1,0,1,0,0,1,0,0,1,1,1,1,0,1,0] nD) (aw [1,1,0,1,0,0,1,0,0,1,1,1,1,0,1,1] nD)):=
 jh Kh [[1,2,3,4,0]] (@FF C) (by kernel_rfl) (bf (bs:=[.loop (aw [1,1,0,1,0,0,1,0,0,1,1,1,1,0,1,0,1,0,0] nD)]) (by kernel_rfl) (bA (aet C) ax)) (bf (bs:=[]) (by kernel_rfl) ax) (fun ds=>by kernel_rfl) (fun i β k=>by kernel_rfl) (fun β ds k=>by kernel_rfl)
theorem aev (C:ag):Bm C (.loop (aw [1,1,0,1,0,0,1,0,0,1,1,1,1,1,1,0,1,0,0] nD)):=
 ca Ki [false,false,false,false,true,true] [[1,2,3,4,0,0]] (@Bj C) (by kernel_rfl) (bf (bs:=[]) (by kernel_rfl) ax) (fun ds=>by kernel_rfl) (fun i x=>by kernel_rfl) (fun i x β k=>by kernel_rfl) (fun β ds k=>by kernel_rfl)
theorem aew (C:ag):Bm C (.loop (aw [1,1,0,1,0,0] nD)):=
 ca Kj [false,false,true,true,true] [[0,0],[1,2,0,0,0,0]] (@Bl C) (by kernel_rfl) (bf (bs:=[.loop (aw [1,1,0,1,0,0,1,0,0,0,0,0] nD),.cond 65 (aw [1,1,0,1,0,0,1,0,0,1,1,1,1,0,1,0] nD) (aw [1,1,0,1,0,0,1,0,0,1,1,1,1,0,1,1] nD),.loop (aw [1,1,0,1,0,0,1,0,0,1,1,1,1,1,1,0,1,0,0] nD)]) (by kernel_rfl) (bA (aes C) (bA (aeu C) (bA (aev C) ax)))) (fun ds=>by kernel_rfl) (fun i x=>by kernel_rfl) (fun i x β k=>by kernel_rfl) (fun β ds k=>by kernel_rfl)
noncomputable def SS (C:ag) (a b':Int) (ak:List V):Option (List V):=
 (Loop (sC C a b') (IntKind.wrap .i64 (a+1),0,ak)).bind (b7 (un fun (KH:Bool) (aex:List V)=>
  some [.bool KH,.list aa aex]) (un fun (aj5:Int)=>un fun (aj6:Int)=>un fun (Q2:Bool) (aey:List V)=>
  some [.bool false,.list aa aey]))
theorem aez {a b':Int} {ak:List V} {r:Option (List V)} (h:SS CC a b' ak=r):CC ER [.int .i64 a,.int .i64 b',.list aa ak]=r:=
 a9 (key:=116) (L:=SR CC) (bs:=[.loop (aw [1,1,0,1,0,0] nD)]) (by kernel_rfl) (bA (aew CC) ax) (aZ (by kernel_rfl) h)
end Go.AM
set_option maxRecDepth 100000
set_option maxHeartbeats 4000000
namespace Go.AM.SX
open Go.Proofs Go.Sort
theorem xN (p:XE→Bool) (d:Array XE) (j i:Nat):scanUp p d j i=if i≤j then (if p d[i]! =true then scanUp p d j (i+1) else i) else i:=by
 conv=>lhs;rw[scanUp]
 by_cases h:i≤j
 ·rw[aj h];simp only[h,rm,lV]
 ·rw[ai h,ai (by simp[h])]
theorem Lj (p:XE→Bool) (d:Array XE) (i j:Nat):scanDown p d i (j+1)=if i≤j+1 then (if p d[j+1]! =true then scanDown p d i j else j+1) else j+1:=by
 conv=>lhs;rw[scanDown]
 by_cases h:i≤j+1
 ·rw[aj h];simp only[h,rm,lV]
 ·rw[ai h,ai (by simp[h])]
theorem FG (d:Array XE) (b i:Nat):scanSorted aA d b i=if i<b then (if bX d[i]! d[i-1]! <0 then i else scanSorted aA d b (i+1)) else i:=by
 conv=>lhs;rw[scanSorted]
 by_cases h:i<b
 ·rw[aj h];simp only[h,rm,lV,qU]
  by_cases U:bX d[i]! d[i-1]! <0
  ·rw[ai (pY U),aj U]
  ·rw[aj U,ai U]
 ·rw[ai h,ai (by simp[h])]
theorem SU (j:Nat) (d:Array XE):shiftDown aA (j+1) d=if bX d[j+1]! d[j]! <0 then shiftDown aA j (swp d (j+1) j) else d:=by
 conv=>lhs;rw[shiftDown]
 simp only[qU]
 by_cases U:bX d[j+1]! d[j]! <0
 ·rw[ai (pY U),aj U]
 ·rw[aj U,ai U]
theorem FH (b j:Nat) (d:Array XE):shiftUp aA b j d=if j<b then (if bX d[j]! d[j-1]! <0 then shiftUp aA b (j+1) (swp d j (j-1)) else d) else d:=by
 conv=>lhs;rw[shiftUp]
 simp only[qU]
 by_cases h:j<b
 ·rw[aj h,aj h]
  by_cases U:bX d[j]! d[j-1]! <0
  ·rw[ai (pY U),aj U]
  ·rw[aj U,ai U]
 ·rw[ai h,ai h]
theorem aeA {a:Nat}: ∀(n i j:Nat) (d:Array XE),j+1-i≤n→(partLoop aA a i j d).2.size=d.size∧(partLoop aA a i j d).1≤j:=by
 intro n
 induction n with
 | zero=>
  intro i j d hn
  have h1:=scanUp_ge (fun x=>aA x d[a]!) d j i
  have U:=scanDown_le (fun x=> !aA x d[a]!) d (scanUp (fun x=>aA x d[a]!) d j i) j
  rw[partLoop_eq,aj (by omega)]
  exact ⟨rfl,U⟩
 | succ n ih=>
  intro i j d hn
  rw[partLoop_eq]
  have h1:=scanUp_ge (fun x=>aA x d[a]!) d j i
  have U:=scanDown_le (fun x=> !aA x d[a]!) d (scanUp (fun x=>aA x d[a]!) d j i) j
  split
  ·exact ⟨rfl,U⟩
  ·obtain ⟨h3,h4⟩:=ih (scanUp (fun x=>aA x d[a]!) d j i+1) (scanDown (fun x=> !aA x d[a]!) d (scanUp (fun x=>aA x d[a]!) d j i) j-1) (swp d (scanUp (fun x=>aA x d[a]!) d j i) (scanDown (fun x=> !aA x d[a]!) d (scanUp (fun x=>aA x d[a]!) d j i) j)) (by omega)
   exact ⟨by rw[h3,size_swp],by omega⟩
theorem kq {β:Type} {d:Array XE} {i:Nat} {x y:Option β} (h:i<d.size):(bif (decide (0≤(i:Int)))&&(decide ((i:Int)<((eA d).length:Int))) then x else y)=x:=by
 rw[fJ,cS,az,aj (by omega),az,aj (by omega)]
theorem FI {β:Type} {d:Array XE} {i k:Nat} {v:V} {x y:Option β} (h:i<d.size):(bif (decide (0≤(i:Int)))&&(decide ((i:Int)<(((eA d).set k v).length:Int))) then x else y)=x:=by
 rw[nQ,fJ,cS,az,aj (by omega),az,aj (by omega)]
theorem ku {β:Type} {d:Array XE} {i:Nat} {f:V→Option β} (h:i<d.size):((eA d)[(i:Int).toNat]?).bind f=f (d[i]!).enc:=by
 rw[Int.toNat_natCast,fL h];rfl
theorem FJ {β:Type} {d:Array XE} {i k:Nat} {v:V} {x:Option β} (h:i<d.size):(((eA d).set k v)[(i:Int).toNat]?).bind (fun _=>x)=x:=by
 rw[Int.toNat_natCast,bO (by rw[nQ,fJ];exact h)];rfl
theorem qW {β:Type} {d:Array XE} {i:Nat} {f:V→Option β} (h:i<d.size):((eA d)[i]?).bind f=f (d[i]!).enc:=by
 rw[fL h];rfl
theorem Lk {β:Type} {d:Array XE} {i k:Nat} {v:V} {x:Option β} (h:i<d.size):(((eA d).set k v)[i]?).bind (fun _=>x)=x:=by
 rw[bO (by rw[nQ,fJ];exact h)];rfl
theorem aeB {a j:Nat} {d:Array XE} (ha:a<d.size) (hj:j<d.size) (hs:d.size<1152921504606846976): ∀(n i:Nat),j+1-i=n→i≤d.size→
  ∃t,Loop (A6 CC a j (eA d)) (i:Int)=some (((scanUp (fun x=>aA x d[a]!) d j i:Nat):Int),t):=by
 intro n
 induction n with
 | zero=>
  intro i hn hi
  rw[xN,ai (by omega)]
  exact ⟨false,aV (by simp (disch:=omega) only[A6,A5,az,ai])⟩
 | succ n ih=>
  intro i hn hi
  obtain ⟨t,h⟩:=ih (i+1) (by omega) (by omega)
  rw[xN,aj (by omega)]
  have e:A6 CC a j (eA d) (i:Int)=if bX d[i]! d[a]! <0 then some (.inl ((i+1:Nat):Int)) else some (.inr ((i:Int),decide (bX d[i]! d[a]! <0))):=by
   simp (disch:=omega) only[A6,A5,az,cS,gp,aj,ai,wrap64,dL,fM,Int.toNat_natCast,Option.bind_some,fJ,fL,XE.bd,XE.bj,XE.bh,XE.re,fK,il,gG,gB,V.aW,V.toInt_int,cond_true,cond_false]
  simp only[sA]
  by_cases U:bX d[i]! d[a]! <0
  ·rw[aj U] at e
   rw[aj U]
   exact ⟨t,(bQ e).trans h⟩
  ·rw[ai U] at e
   rw[ai U]
   exact ⟨_,aV e⟩
theorem SV {a j:Nat} {d:Array XE} (ha:a<d.size) (hj:j<d.size) (hs:d.size<1152921504606846976): ∀(n i:Nat),j+1-i=n→i≤d.size→
  ∃t,Loop (A9 CC a j (eA d)) (i:Int)=some (((scanUp (fun x=>aA x d[a]!) d j i:Nat):Int),t):=by
 intro n
 induction n with
 | zero=>
  intro i hn hi
  rw[xN,ai (by omega)]
  exact ⟨false,aV (by simp (disch:=omega) only[A9,A7,az,ai])⟩
 | succ n ih=>
  intro i hn hi
  obtain ⟨t,h⟩:=ih (i+1) (by omega) (by omega)
  rw[xN,aj (by omega)]
  have e:A9 CC a j (eA d) (i:Int)=if bX d[i]! d[a]! <0 then some (.inl ((i+1:Nat):Int)) else some (.inr ((i:Int),decide (bX d[i]! d[a]! <0))):=by
   simp (disch:=omega) only[A9,A7,az,cS,gp,aj,ai,wrap64,dL,fM,Int.toNat_natCast,Option.bind_some,fJ,fL,XE.bd,XE.bj,XE.bh,XE.re,fK,il,gG,gB,V.aW,V.toInt_int,cond_true,cond_false]
  simp only[sA]
  by_cases U:bX d[i]! d[a]! <0
  ·rw[aj U] at e
   rw[aj U]
   exact ⟨t,(bQ e).trans h⟩
  ·rw[ai U] at e
   rw[ai U]
   exact ⟨_,aV e⟩
theorem SW {a i:Nat} {d:Array XE} (ha:a<d.size) (hi:1≤i) (hs:d.size<1152921504606846976): ∀(j:Nat),j<d.size→
  ∃t,Loop (xF CC a i (eA d)) (j:Int)=some (((scanDown (fun x=> !aA x d[a]!) d i j:Nat):Int),t)
 | 0,hj=>⟨false,aV (by simp (disch:=omega) only[xF,xE,az,ai];rfl)⟩
 | j+1,hj=>by
  obtain ⟨t,h⟩:=SW ha hi hs j (by omega)
  rw[Lj]
  by_cases h1:i≤j+1
  ·rw[aj h1]
   have e:xF CC a i (eA d) ((j+1:Nat):Int)=if bX d[j+1]! d[a]! <0 then some (.inr (((j+1:Nat):Int),!decide (bX d[j+1]! d[a]! <0))) else some (.inl (j:Int)):=by
    simp (disch:=omega) only[xF,xE,az,cS,gp,aj,ai,wrap64,dL,fM,Int.toNat_natCast,Option.bind_some,fJ,fL,XE.bd,XE.bj,XE.bh,XE.re,fK,il,gG,gB,V.aW,V.toInt_int,cond_true,cond_false,uN]
   simp only[qU]
   by_cases U:bX d[j+1]! d[a]! <0
   ·rw[aj U] at e
    rw[ai (pY U)]
    exact ⟨_,aV e⟩
   ·rw[ai U] at e
    rw[aj U]
    exact ⟨t,(bQ e).trans h⟩
  ·rw[ai h1]
   exact ⟨false,aV (by simp (disch:=omega) only[xF,xE,az,ai])⟩
theorem Ll {a i:Nat} {d:Array XE} (ha:a<d.size) (hi:1≤i) (hs:d.size<1152921504606846976): ∀(j:Nat),j<d.size→
  ∃t,Loop (xH CC a i (eA d)) (j:Int)=some (((scanDown (fun x=> !aA x d[a]!) d i j:Nat):Int),t)
 | 0,hj=>⟨false,aV (by simp (disch:=omega) only[xH,xG,az,ai];rfl)⟩
 | j+1,hj=>by
  obtain ⟨t,h⟩:=Ll ha hi hs j (by omega)
  rw[Lj]
  by_cases h1:i≤j+1
  ·rw[aj h1]
   have e:xH CC a i (eA d) ((j+1:Nat):Int)=if bX d[j+1]! d[a]! <0 then some (.inr (((j+1:Nat):Int),!decide (bX d[j+1]! d[a]! <0))) else some (.inl (j:Int)):=by
    simp (disch:=omega) only[xH,xG,az,cS,gp,aj,ai,wrap64,dL,fM,Int.toNat_natCast,Option.bind_some,fJ,fL,XE.bd,XE.bj,XE.bh,XE.re,fK,il,gG,gB,V.aW,V.toInt_int,cond_true,cond_false,uN]
   simp only[qU]
   by_cases U:bX d[j+1]! d[a]! <0
   ·rw[aj U] at e
    rw[ai (pY U)]
    exact ⟨_,aV e⟩
   ·rw[ai U] at e
    rw[aj U]
    exact ⟨t,(bQ e).trans h⟩
  ·rw[ai h1]
   exact ⟨false,aV (by simp (disch:=omega) only[xH,xG,az,ai])⟩
theorem SY {a j:Nat} {d:Array XE} (ha:a<d.size) (hj:j<d.size) (hs:d.size<1152921504606846976): ∀(n i:Nat),j+1-i=n→i≤d.size→
  ∃t,Loop (Bd CC a j (eA d)) (i:Int)=some (((scanUp (fun x=> !aA d[a]! x) d j i:Nat):Int),t):=by
 intro n
 induction n with
 | zero=>
  intro i hn hi
  rw[xN,ai (by omega)]
  exact ⟨false,aV (by simp (disch:=omega) only[Bd,Bc,az,ai])⟩
 | succ n ih=>
  intro i hn hi
  obtain ⟨t,h⟩:=ih (i+1) (by omega) (by omega)
  rw[xN,aj (by omega)]
  have e:Bd CC a j (eA d) (i:Int)=if bX d[a]! d[i]! <0 then some (.inr ((i:Int),!decide (bX d[a]! d[i]! <0))) else some (.inl ((i+1:Nat):Int)):=by
   simp (disch:=omega) only[Bd,Bc,az,cS,gp,aj,ai,wrap64,dL,fM,Int.toNat_natCast,Option.bind_some,fJ,fL,XE.bd,XE.bj,XE.bh,XE.re,fK,il,gG,gB,V.aW,V.toInt_int,cond_true,cond_false]
  simp only[qU]
  by_cases U:bX d[a]! d[i]! <0
  ·rw[aj U] at e
   rw[ai (pY U)]
   exact ⟨_,aV e⟩
  ·rw[ai U] at e
   rw[aj U]
   exact ⟨t,(bQ e).trans h⟩
theorem Lm {a i:Nat} {d:Array XE} (ha:a<d.size) (hi:1≤i) (hs:d.size<1152921504606846976): ∀(j:Nat),j<d.size→
  ∃t,Loop (xL CC a i (eA d)) (j:Int)=some (((scanDown (fun x=>aA d[a]! x) d i j:Nat):Int),t)
 | 0,hj=>⟨false,aV (by simp (disch:=omega) only[xL,xK,az,ai];rfl)⟩
 | j+1,hj=>by
  obtain ⟨t,h⟩:=Lm ha hi hs j (by omega)
  rw[Lj]
  by_cases h1:i≤j+1
  ·rw[aj h1]
   have e:xL CC a i (eA d) ((j+1:Nat):Int)=if bX d[a]! d[j+1]! <0 then some (.inl (j:Int)) else some (.inr (((j+1:Nat):Int),decide (bX d[a]! d[j+1]! <0))):=by
    simp (disch:=omega) only[xL,xK,az,cS,gp,aj,ai,wrap64,dL,fM,Int.toNat_natCast,Option.bind_some,fJ,fL,XE.bd,XE.bj,XE.bh,XE.re,fK,il,gG,gB,V.aW,V.toInt_int,cond_true,cond_false,uN]
   simp only[sA]
   by_cases U:bX d[a]! d[j+1]! <0
   ·rw[aj U] at e
    rw[aj U]
    exact ⟨t,(bQ e).trans h⟩
   ·rw[ai U] at e
    rw[ai U]
    exact ⟨_,aV e⟩
  ·rw[ai h1]
   exact ⟨false,aV (by simp (disch:=omega) only[xL,xK,az,ai])⟩
theorem aeC {a:Nat}: ∀(n i j:Nat) (d:Array XE),j+1-i≤n→1≤i→i≤d.size→a<d.size→j<d.size→d.size<1152921504606846976→
  ∃x z,Loop (xI CC a) ((i:Int),(j:Int),eA d)=some (x,(((partLoop aA a i j d).1:Nat):Int),z,eA (partLoop aA a i j d).2):=by
 intro n
 induction n with
 | zero=>
  intro i j d hn h1 U ha hj hs
  obtain ⟨t3,e3⟩:=SV (a:=a) ha hj hs _ i rfl U
  have g1:=scanUp_ge (fun x=>aA x d[a]!) d j i
  have g2:=scanDown_le (fun x=> !aA x d[a]!) d (scanUp (fun x=>aA x d[a]!) d j i) j
  obtain ⟨t4,e4⟩:=Ll (a:=a) (i:=scanUp (fun x=>aA x d[a]!) d j i) ha (by omega) hs j hj
  rw[partLoop_eq,aj (by omega)]
  refine ⟨((scanUp (fun x=>aA x d[a]!) d j i:Nat):Int),true,aV ?_⟩
  simp only[xI,Ba,un]
  rw[e3]
  simp only[Option.bind_some,un]
  rw[e4]
  simp (disch:=omega) only[Option.bind_some,un,ny,cond_true]
 | succ n ih=>
  intro i j d hn h1 U ha hj hs
  obtain ⟨t3,e3⟩:=SV (a:=a) ha hj hs _ i rfl U
  have g1:=scanUp_ge (fun x=>aA x d[a]!) d j i
  have g2:=scanDown_le (fun x=> !aA x d[a]!) d (scanUp (fun x=>aA x d[a]!) d j i) j
  obtain ⟨t4,e4⟩:=Ll (a:=a) (i:=scanUp (fun x=>aA x d[a]!) d j i) ha (by omega) hs j hj
  rw[partLoop_eq]
  have f:xI CC a ((i:Int),(j:Int),eA d)=xI CC a ((i:Int),(j:Int),eA d):=rfl
  conv at f=>rhs;simp only[xI,Ba,un];rw[e3];simp only[Option.bind_some,un];rw[e4];simp only[Option.bind_some,un]
  generalize gO:scanUp (fun x=>aA x d[a]!) d j i=i2 at*
  generalize fW:scanDown (fun x=> !aA x d[a]!) d i2 j=j2 at*
  by_cases h:i2>j2
  ·rw[aj h]
   refine ⟨(i2:Int),true,aV (f.trans ?_)⟩
   simp (disch:=omega) only[Option.bind_some,ny,cond_true]
  ·rw[ai h]
   obtain ⟨x,z,e⟩:=ih (i2+1) (j2-1) (swp d i2 j2) (by omega) (by omega) (by rw[size_swp];omega) (by rw[size_swp];omega) (by rw[size_swp];omega) (by rw[size_swp];omega)
   refine ⟨x,z,(bQ (f.trans ?_)).trans e⟩
   simp (disch:=omega) only[az,cS,gp,aj,ai,wrap64,dL,fM,Int.toNat_natCast,Option.bind_some,fJ,fL,XE.bd,XE.bj,XE.bh,XE.re,fK,il,gG,gB,V.aW,V.toInt_int,cond_true,cond_false,kp]
   rfl
theorem aeD (d:Array XE) (a b pivot:Nat):partition aA d a b pivot=
  if scanUp (fun x=>aA x (swp d a pivot)[a]!) (swp d a pivot) (b-1) (a+1)>scanDown (fun x=> !aA x (swp d a pivot)[a]!) (swp d a pivot) (scanUp (fun x=>aA x (swp d a pivot)[a]!) (swp d a pivot) (b-1) (a+1)) (b-1) then
   (scanDown (fun x=> !aA x (swp d a pivot)[a]!) (swp d a pivot) (scanUp (fun x=>aA x (swp d a pivot)[a]!) (swp d a pivot) (b-1) (a+1)) (b-1),true,swp (swp d a pivot) (scanDown (fun x=> !aA x (swp d a pivot)[a]!) (swp d a pivot) (scanUp (fun x=>aA x (swp d a pivot)[a]!) (swp d a pivot) (b-1) (a+1)) (b-1)) a)
  else
   ((partLoop aA a (scanUp (fun x=>aA x (swp d a pivot)[a]!) (swp d a pivot) (b-1) (a+1)+1) (scanDown (fun x=> !aA x (swp d a pivot)[a]!) (swp d a pivot) (scanUp (fun x=>aA x (swp d a pivot)[a]!) (swp d a pivot) (b-1) (a+1)) (b-1)-1) (swp (swp d a pivot) (scanUp (fun x=>aA x (swp d a pivot)[a]!) (swp d a pivot) (b-1) (a+1)) (scanDown (fun x=> !aA x (swp d a pivot)[a]!) (swp d a pivot) (scanUp (fun x=>aA x (swp d a pivot)[a]!) (swp d a pivot) (b-1) (a+1)) (b-1)))).1,false,
    swp (partLoop aA a (scanUp (fun x=>aA x (swp d a pivot)[a]!) (swp d a pivot) (b-1) (a+1)+1) (scanDown (fun x=> !aA x (swp d a pivot)[a]!) (swp d a pivot) (scanUp (fun x=>aA x (swp d a pivot)[a]!) (swp d a pivot) (b-1) (a+1)) (b-1)-1) (swp (swp d a pivot) (scanUp (fun x=>aA x (swp d a pivot)[a]!) (swp d a pivot) (b-1) (a+1)) (scanDown (fun x=> !aA x (swp d a pivot)[a]!) (swp d a pivot) (scanUp (fun x=>aA x (swp d a pivot)[a]!) (swp d a pivot) (b-1) (a+1)) (b-1)))).2
    (partLoop aA a (scanUp (fun x=>aA x (swp d a pivot)[a]!) (swp d a pivot) (b-1) (a+1)+1) (scanDown (fun x=> !aA x (swp d a pivot)[a]!) (swp d a pivot) (scanUp (fun x=>aA x (swp d a pivot)[a]!) (swp d a pivot) (b-1) (a+1)) (b-1)-1) (swp (swp d a pivot) (scanUp (fun x=>aA x (swp d a pivot)[a]!) (swp d a pivot) (b-1) (a+1)) (scanDown (fun x=> !aA x (swp d a pivot)[a]!) (swp d a pivot) (scanUp (fun x=>aA x (swp d a pivot)[a]!) (swp d a pivot) (b-1) (a+1)) (b-1)))).1 a):=rfl
theorem xO (d:Array XE) (i j:Nat):eA ((d.setIfInBounds i d[j]!).setIfInBounds j d[i]!)=eA (swp d i j):=rfl
theorem aeE {a b pivot:Nat} {d:Array XE} (hp:pivot<b) (e7:a<b) (hb:b≤d.size) (hs:d.size<1152921504606846976):
  CC np [.int .i64 (a:Int),.int .i64 (b:Int),.int .i64 (pivot:Int),.list aa (eA d)]=
   some [.int .i64 ((partition aA d a b pivot).1:Int),.bool (partition aA d a b pivot).2.1,.list aa (eA (partition aA d a b pivot).2.2)]:=by
 refine aej ?_
 unfold SN
 have z1:(swp d a pivot).size=d.size:=size_swp ..
 obtain ⟨t1,e1⟩:=aeB (a:=a) (j:=b-1) (d:=swp d a pivot) (by omega) (by omega) (by omega) _ (a+1) rfl (by omega)
 have g1:=scanUp_ge (fun x=>aA x (swp d a pivot)[a]!) (swp d a pivot) (b-1) (a+1)
 have g2:=scanDown_le (fun x=> !aA x (swp d a pivot)[a]!) (swp d a pivot) (scanUp (fun x=>aA x (swp d a pivot)[a]!) (swp d a pivot) (b-1) (a+1)) (b-1)
 obtain ⟨t2,e2⟩:=SW (a:=a) (i:=scanUp (fun x=>aA x (swp d a pivot)[a]!) (swp d a pivot) (b-1) (a+1)) (d:=swp d a pivot) (by omega) (by omega) (by omega) (b-1) (by omega)
 have e0:=aeD d a b pivot
 rw[kq (i:=pivot) (by omega),ku (by omega),kq (i:=a) (by omega),ku (by omega),kq (i:=a) (by omega),ku (by omega),FI (i:=pivot) (by omega),FJ (by omega)]
 simp only[XE.bd,XE.bj,XE.bh,XE.re,Int.toNat_natCast,fK,xO]
 simp (disch:=omega) only[kp,dL,wrap64]
 rw[e1]
 simp only[Option.bind_some,un]
 rw[e2]
 simp only[Option.bind_some,un]
 generalize gO:scanUp (fun x=>aA x (swp d a pivot)[a]!) (swp d a pivot) (b-1) (a+1)=i2 at*
 generalize fW:scanDown (fun x=> !aA x (swp d a pivot)[a]!) (swp d a pivot) i2 (b-1)=j2 at*
 generalize swp d a pivot=d1 at*
 by_cases h:i2>j2
 ·rw[aj h] at e0
  rw[e0,az,aj (by omega)]
  rw[kq (i:=a) (by omega)];(first|rw[ku (by omega)]|rw[qW (by omega)]);rw[kq (i:=j2) (by omega)];(first|rw[ku (by omega)]|rw[qW (by omega)]);rw[kq (i:=j2) (by omega)];(first|rw[ku (by omega)]|rw[qW (by omega)]);rw[FI (i:=a) (by omega)];(first|rw[FJ (by omega)]|rw[Lk (by omega)])
  simp only[XE.bd,XE.bj,XE.bh,XE.re,Int.toNat_natCast,fK,xO]
 ·rw[ai h] at e0
  rw[e0,az,ai (by omega)]
  have z2:(swp d1 i2 j2).size=d1.size:=size_swp ..
  obtain ⟨x,z,e5⟩:=aeC (a:=a) _ (i2+1) (j2-1) (swp d1 i2 j2) (bY _) (by omega) (by omega) (by omega) (by omega) (by omega)
  obtain ⟨q1,q2⟩:=aeA (a:=a) _ (i2+1) (j2-1) (swp d1 i2 j2) (bY _)
  rw[kq (i:=j2) (by omega)];(first|rw[ku (by omega)]|rw[qW (by omega)]);rw[kq (i:=i2) (by omega)];(first|rw[ku (by omega)]|rw[qW (by omega)]);rw[kq (i:=i2) (by omega)];(first|rw[ku (by omega)]|rw[qW (by omega)]);rw[FI (i:=j2) (by omega)];(first|rw[FJ (by omega)]|rw[Lk (by omega)])
  simp only[XE.bd,XE.bj,XE.bh,XE.re,Int.toNat_natCast,fK,xO]
  simp (disch:=omega) only[kp,dL,wrap64]
  rw[e5]
  generalize partLoop aA a (i2+1) (j2-1) (swp d1 i2 j2)=r at*
  simp only[Option.bind_some,un]
  rw[kq (i:=a) (by omega)];(first|rw[ku (by omega)]|rw[qW (by omega)]);rw[kq (i:=r.1) (by omega)];(first|rw[ku (by omega)]|rw[qW (by omega)]);rw[kq (i:=r.1) (by omega)];(first|rw[ku (by omega)]|rw[qW (by omega)]);rw[FI (i:=a) (by omega)];(first|rw[FJ (by omega)]|rw[Lk (by omega)])
  simp only[XE.bd,XE.bj,XE.bh,XE.re,Int.toNat_natCast,fK,xO]
theorem aeF {a:Nat}: ∀(n i j:Nat) (d:Array XE),j+1-i≤n→1≤i→i≤d.size→a<d.size→j<d.size→d.size<1152921504606846976→
  ∃x z,Loop (xM CC a) ((i:Int),(j:Int),eA d)=some ((((partEqLoop aA a i j d).1:Nat):Int),x,z,eA (partEqLoop aA a i j d).2):=by
 intro n
 induction n with
 | zero=>
  intro i j d hn h1 U ha hj hs
  obtain ⟨t3,e3⟩:=SY (a:=a) ha hj hs _ i rfl U
  have g1:=scanUp_ge (fun x=> !aA d[a]! x) d j i
  have g2:=scanDown_le (fun x=>aA d[a]! x) d (scanUp (fun x=> !aA d[a]! x) d j i) j
  obtain ⟨t4,e4⟩:=Lm (a:=a) (i:=scanUp (fun x=> !aA d[a]! x) d j i) ha (by omega) hs j hj
  rw[partEqLoop_eq,aj (by omega)]
  refine ⟨((scanDown (fun x=>aA d[a]! x) d (scanUp (fun x=> !aA d[a]! x) d j i) j:Nat):Int),true,aV ?_⟩
  simp only[xM,Be,un]
  rw[e3]
  simp only[Option.bind_some,un]
  rw[e4]
  simp (disch:=omega) only[Option.bind_some,un,ny,cond_true]
 | succ n ih=>
  intro i j d hn h1 U ha hj hs
  obtain ⟨t3,e3⟩:=SY (a:=a) ha hj hs _ i rfl U
  have g1:=scanUp_ge (fun x=> !aA d[a]! x) d j i
  have g2:=scanDown_le (fun x=>aA d[a]! x) d (scanUp (fun x=> !aA d[a]! x) d j i) j
  obtain ⟨t4,e4⟩:=Lm (a:=a) (i:=scanUp (fun x=> !aA d[a]! x) d j i) ha (by omega) hs j hj
  rw[partEqLoop_eq]
  have f:xM CC a ((i:Int),(j:Int),eA d)=xM CC a ((i:Int),(j:Int),eA d):=rfl
  conv at f=>rhs;simp only[xM,Be,un];rw[e3];simp only[Option.bind_some,un];rw[e4];simp only[Option.bind_some,un]
  generalize gO:scanUp (fun x=> !aA d[a]! x) d j i=i2 at*
  generalize fW:scanDown (fun x=>aA d[a]! x) d i2 j=j2 at*
  by_cases h:i2>j2
  ·rw[aj h]
   refine ⟨(j2:Int),true,aV (f.trans ?_)⟩
   simp (disch:=omega) only[Option.bind_some,ny,cond_true]
  ·rw[ai h]
   obtain ⟨x,z,e⟩:=ih (i2+1) (j2-1) (swp d i2 j2) (by omega) (by omega) (by rw[size_swp];omega) (by rw[size_swp];omega) (by rw[size_swp];omega) (by rw[size_swp];omega)
   refine ⟨x,z,(bQ (f.trans ?_)).trans e⟩
   simp (disch:=omega) only[az,cS,gp,aj,ai,wrap64,dL,fM,Int.toNat_natCast,Option.bind_some,fJ,fL,XE.bd,XE.bj,XE.bh,XE.re,fK,il,gG,gB,V.aW,V.toInt_int,cond_true,cond_false,kp]
   rfl
theorem aeG {a b pivot:Nat} {d:Array XE} (hp:pivot<b) (e7:a<b) (hb:b≤d.size) (hs:d.size<1152921504606846976):
  CC ur [.int .i64 (a:Int),.int .i64 (b:Int),.int .i64 (pivot:Int),.list aa (eA d)]=
   some [.int .i64 ((partitionEqual aA d a b pivot).1:Int),.list aa (eA (partitionEqual aA d a b pivot).2)]:=by
 refine aep ?_
 unfold SP
 have z1:(swp d a pivot).size=d.size:=size_swp ..
 obtain ⟨x,z,e⟩:=aeF (a:=a) _ (a+1) (b-1) (swp d a pivot) (bY _) (by omega) (by omega) (by omega) (by omega) (by omega)
 simp (disch:=omega) only[az,cS,aj,fJ,fL,Int.toNat_natCast,Option.bind_some,XE.bd,XE.bj,XE.bh,XE.re,fK,il,gG,kp,dL,wrap64,xO]
 rw[e]
 rfl
theorem aeH {a b j:Nat} {d:Array XE} (hb:b≤d.size) (hs:d.size<1152921504606846976): ∀(n i:Nat),b-i=n→1≤i→i≤b→
  ∃t,Loop (Bg CC a b j (eA d)) (i:Int)=some (((scanSorted aA d b i:Nat):Int),t):=by
 intro n
 induction n with
 | zero=>
  intro i hn h1 hi
  rw[FG,ai (by omega)]
  exact ⟨false,aV (by simp (disch:=omega) only[Bg,Bf,az,ai])⟩
 | succ n ih=>
  intro i hn h1 hi
  obtain ⟨t,h⟩:=ih (i+1) (by omega) (by omega) (by omega)
  rw[FG,aj (by omega)]
  have e:Bg CC a b j (eA d) (i:Int)=if bX d[i]! d[i-1]! <0 then some (.inr ((i:Int),!decide (bX d[i]! d[i-1]! <0))) else some (.inl ((i+1:Nat):Int)):=by
   simp (disch:=omega) only[Bg,Bf,kp,az,cS,gp,aj,ai,wrap64,dL,fM,Int.toNat_natCast,Option.bind_some,fJ,fL,XE.bd,XE.bj,XE.bh,XE.re,fK,il,gG,gB,V.aW,V.toInt_int,cond_true,cond_false]
  by_cases U:bX d[i]! d[i-1]! <0
  ·rw[aj U] at e⊢
   exact ⟨_,aV e⟩
  ·rw[ai U] at e⊢
   exact ⟨t,(bQ e).trans h⟩
theorem SZ: ∀(j:Nat) (d:Array XE),(shiftDown aA j d).size=d.size
 | 0,_=>rfl
 | j+1,d=>by
  rw[SU]
  split
  ·rw[SZ j,size_swp]
  ·rfl
theorem aeI {b:Nat}: ∀(n j:Nat) (d:Array XE),b-j=n→(shiftUp aA b j d).size=d.size:=by
 intro n
 induction n with
 | zero=>intro j d h;rw[FH,ai (by omega)]
 | succ n ih=>
  intro j d h
  rw[FH,aj (by omega)]
  split
  ·rw[ih _ _ (by omega),size_swp]
  ·rfl
theorem S0 {a b i k:Nat}: ∀(j:Nat) (d:Array XE),j<d.size→d.size<1152921504606846976→
  ∃t,Loop (Bi CC a b i k) ((j:Int),eA d)=some (t,eA (shiftDown aA j d))
 | 0,d,hj,hs=>⟨(0:Nat),aV (by
   simp (disch:=omega) only[Bi,Bh,un,az,ai]
   rfl)⟩
 | j+1,d,hj,hs=>by
  obtain ⟨t,ih⟩:=S0 (a:=a) (b:=b) (i:=i) (k:=k) j (swp d (j+1) j) (by rw[size_swp];omega) (by rw[size_swp];omega)
  rw[SU]
  have e:Bi CC a b i k (((j+1:Nat):Int),eA d)=if bX d[j+1]! d[j]! <0 then some (.inl ((j:Int),eA (swp d (j+1) j))) else some (.inr (((j+1:Nat):Int),eA d)):=by
   simp (disch:=omega) only[Bi,Bh,un,az,cS,gp,aj,ai,wrap64,dL,fM,Int.toNat_natCast,Option.bind_some,fJ,fL,XE.bd,XE.bj,XE.bh,XE.re,fK,il,gG,gB,V.aW,V.toInt_int,cond_true,cond_false,uN]
   rfl
  by_cases U:bX d[j+1]! d[j]! <0
  ·rw[aj U] at e⊢
   exact ⟨t,(bQ e).trans ih⟩
  ·rw[ai U] at e⊢
   exact ⟨_,aV e⟩
theorem aeJ {a b i k:Nat}: ∀(n j:Nat) (d:Array XE),b-j=n→1≤j→j≤b→b≤d.size→d.size<1152921504606846976→
  ∃t,Loop (Bk CC a b i k) ((j:Int),eA d)=some (t,eA (shiftUp aA b j d)):=by
 intro n
 induction n with
 | zero=>
  intro j d hn h1 hj hb hs
  rw[FH,ai (by omega)]
  exact ⟨(j:Int),aV (by
   simp (disch:=omega) only[Bk,Bj,un,az,ai])⟩
 | succ n ih=>
  intro j d hn h1 hj hb hs
  obtain ⟨t,h⟩:=ih (j+1) (swp d j (j-1)) (by omega) (by omega) (by omega) (by rw[size_swp];omega) (by rw[size_swp];omega)
  rw[FH,aj (by omega)]
  have e:Bk CC a b i k ((j:Int),eA d)=if bX d[j]! d[j-1]! <0 then some (.inl (((j+1:Nat):Int),eA (swp d j (j-1)))) else some (.inr ((j:Int),eA d)):=by
   simp (disch:=omega) only[Bk,Bj,un,kp,az,cS,gp,aj,ai,wrap64,dL,fM,Int.toNat_natCast,Option.bind_some,fJ,fL,XE.bd,XE.bj,XE.bh,XE.re,fK,il,gG,gB,V.aW,V.toInt_int,cond_true,cond_false]
   rfl
  by_cases U:bX d[j]! d[j-1]! <0
  ·rw[aj U] at e⊢
   exact ⟨t,(bQ e).trans h⟩
  ·rw[ai U] at e⊢
   exact ⟨_,aV e⟩
theorem aeK {d:Array XE} {b:Nat}: ∀(n i:Nat),b-i=n→i≤b→i≤scanSorted aA d b i∧scanSorted aA d b i≤b:=by
 intro n
 induction n with
 | zero=>intro i hn hi;rw[FG,ai (by omega)];omega
 | succ n ih=>
  intro i hn hi
  rw[FG,aj (by omega)]
  obtain ⟨h1,U⟩:=ih (i+1) (by omega) (by omega)
  split<;>omega
theorem aeL {a b:Nat}: ∀(s i:Nat) (d:Array XE),s≤5→a<i→i≤b→b≤d.size→d.size<1152921504606846976→
  (Loop (sC CC a b) ((i:Int),((5-s:Nat):Int),eA d)=some (.inl ((partialIns aA a b s i d).2,eA (partialIns aA a b s i d).1)))∨
  (∃x y z,(partialIns aA a b s i d).2=false∧Loop (sC CC a b) ((i:Int),((5-s:Nat):Int),eA d)=some (.inr (x,y,z,eA (partialIns aA a b s i d).1))):=by
 intro s
 induction s with
 | zero=>
  intro i d hs5 hi Ln hb hs
  refine .inr ⟨(i:Int),((5:Nat):Int),false,rfl,aV ?_⟩
  simp (disch:=omega) only[sC,Bl,un,sx,cond_false]
  rfl
 | succ s ih=>
  intro i d hs5 hi Ln hb hs
  obtain ⟨t1,e1⟩:=aeH (a:=a) (j:=5-(s+1)) hb hs _ i rfl (by omega) Ln
  obtain ⟨q1,q2⟩:=aeK (d:=d) _ i rfl Ln
  rw[partialIns_succ]
  have f:sC CC a b ((i:Int),((5-(s+1):Nat):Int),eA d)=sC CC a b ((i:Int),((5-(s+1):Nat):Int),eA d):=rfl
  conv at f=>rhs;simp only[sC,Bl,un];rw[az,aj (by omega),e1];simp only[Option.bind_some,un]
  generalize scanSorted aA d b i=k at*
  by_cases h1:k=b
  ·rw[aj h1]
   left
   refine aV (f.trans ?_)
   rw[df,aj (by omega)]
  ·rw[ai h1]
   by_cases U:b-a<50
   ·rw[aj U]
    left
    refine aV (f.trans ?_)
    rw[df,ai (by omega),wrap64 (by omega) (by omega),az,aj (by omega)]
   ·rw[ai U]
    have z1:(swp d k (k-1)).size=d.size:=size_swp ..
    have z2:(fixDown aA a k (swp d k (k-1))).size=d.size:=by
     unfold fixDown
     split
     ·rw[SZ,z1]
     ·exact z1
    have z3:(fixUp aA b k (fixDown aA a k (swp d k (k-1)))).size=d.size:=by
     unfold fixUp
     split
     ·rw[aeI _ _ _ rfl,z2]
     ·exact z2
    obtain ⟨t2,e2⟩:=S0 (a:=a) (b:=b) (i:=k) (k:=5-(s+1)) (k-1) (swp d k (k-1)) (by omega) (by omega)
    obtain ⟨t4,e4⟩:=aeJ (a:=a) (b:=b) (i:=k) (k:=5-(s+1)) _ (k+1) (fixDown aA a k (swp d k (k-1))) rfl (by omega) (by omega) (by omega) (by omega)
    have e5:sC CC a b ((i:Int),((5-(s+1):Nat):Int),eA d)=some (.inl ((k:Int),((5-s:Nat):Int),eA (fixUp aA b k (fixDown aA a k (swp d k (k-1)))))):=by
     refine f.trans ?_
     rw[df,ai (by omega),wrap64 (by omega) (by omega),az,ai (by omega)]
     simp (disch:=omega) only[az,cS,aj,fJ,fL,Int.toNat_natCast,Option.bind_some,XE.bd,XE.bj,XE.bh,XE.re,fK,il,gG,kp,dL,mC,wrap64,xO,FF]
     rw[show 5-(s+1)+1=5-s by omega]
     unfold fixDown at e4⊢
     unfold fixUp
     have c1:(((k-a:Nat):Int)≥2)=(k-a≥2):=propext (by omega)
     have c2:(((b-k:Nat):Int)≥2)=(b-k≥2):=propext (by omega)
     simp only[c1,c2]
     by_cases g1:k-a≥2
     ·by_cases g2:b-k≥2
      ·simp only[g1,g2,cI,e2,Option.bind_some,un] at e4⊢
       rw[e4]
       rfl
      ·simp only[g1,g2,cI,fg,e2,Option.bind_some,un]
     ·by_cases g2:b-k≥2
      ·simp only[g1,g2,cI,fg] at e4⊢
       rw[e4]
       rfl
      ·exact absurd (show b-k≥2 by omega) g2
    rw[bQ e5]
    exact ih k _ (by omega) (by omega) (by omega) (by omega) (by omega)
theorem S3 {a b:Nat} {d:Array XE} (e7:a<b) (hb:b≤d.size) (hs:d.size<1152921504606846976):
  CC ER [.int .i64 (a:Int),.int .i64 (b:Int),.list aa (eA d)]=
   some [.bool (partialInsertionSort aA d a b).2,.list aa (eA (partialInsertionSort aA d a b).1)]:=by
 refine aez ?_
 unfold SS
 simp (disch:=omega) only[dL,wrap64]
 rcases aeL (a:=a) (b:=b) 5 (a+1) d (bY _) (by omega) (by omega) hb hs with h|⟨x,y,z,h0,h⟩
 ·rw[show ((5-5:Nat):Int)=0 from rfl] at h
  rw[h]
  rfl
 ·rw[show ((5-5:Nat):Int)=0 from rfl] at h
  rw[h]
  unfold partialInsertionSort
  rw[h0]
  rfl
end Go.AM.SX
set_option maxRecDepth 100000
namespace Go.AM
open Go.Proofs
noncomputable abbrev sD:Code:=cC Try.prog (ay.aT 114)
noncomputable def Bn (C:ag) (data:List V) (i j k':Int) (t36:Bool) (gW:Int) {β:Type} (kr:(Int × Int × Int × Int)→Option β):Option β:=
 bif t36 then
  (C wW [.list aa data,.int .i64 i,.int .i64 gW]).bind fun r1=>
  (C wW [.list aa data,.int .i64 j,.int .i64 ((V.nth (r1.drop 1) 0).toInt)]).bind fun r2=>
  (C wW [.list aa data,.int .i64 k',.int .i64 ((V.nth (r2.drop 1) 0).toInt)]).bind fun r3=>
  kr ((V.nth r1 0).toInt,(V.nth r2 0).toInt,(V.nth r3 0).toInt,(V.nth (r3.drop 1) 0).toInt)
 else
  kr (i,j,k',gW)
noncomputable def Bo (C:ag) (data:List V) (l i j k':Int) (t34:Bool) (gW:Int) {β:Type} (kr:(Int × Int)→Option β):Option β:=
 bif t34 then
  Bn C data i j k' (decide ((l:Int)≥50)) gW (un fun (fc:Int)=>un fun (j_5:Int)=>un fun (k_6:Int) (aeM:Int)=>
   (C Ax [.list aa data,.int .i64 fc,.int .i64 j_5,.int .i64 k_6,.int .i64 aeM]).bind fun r8=>
   kr ((V.nth r8 0).toInt,(V.nth (r8.drop 1) 0).toInt))
 else
  kr (j,gW)
noncomputable def S4 (C:ag):cp:=fun β n ds k=>
 bif Nat.beq n 591 then iN Kc [[1,0,0,0,0]] (@Bn C) ds k else
 bif Nat.beq n 559 then iN Kd [[0,0]] (@Bo C) ds k else
 none
abbrev S5 (C:ag) (b:cj):Prop:=cl Try.prog ay C (S4 C) 114 (cH Try.prog (ay.aT 114)) (ay.sin 114).bc.length b
theorem aeN (C:ag):S5 C (.cond 36 (aw [1,1,1,1,1,1,0,1,0,0,1,0] sD) (aw [1,1,1,1,1,1,0,1,0,0,1,1] sD)):=
 jh Kc [[1,0,0,0,0]] (@Bn C) (by kernel_rfl) (bf (bs:=[]) (by kernel_rfl) ax) (bf (bs:=[]) (by kernel_rfl) ax) (fun ds=>by kernel_rfl) (fun i β k=>by kernel_rfl) (fun β ds k=>by kernel_rfl)
theorem aeO (C:ag):S5 C (.cond 34 (aw [1,1,1,1,1,1,0,1,0] sD) (aw [1,1,1,1,1,1,0,1,1] sD)):=
 jh Kd [[0,0]] (@Bo C) (by kernel_rfl) (bf (bs:=[.cond 36 (aw [1,1,1,1,1,1,0,1,0,0,1,0] sD) (aw [1,1,1,1,1,1,0,1,0,0,1,1] sD)]) (by kernel_rfl) (bA (aeN C) ax)) (bf (bs:=[]) (by kernel_rfl) ax) (fun ds=>by kernel_rfl) (fun i β k=>by kernel_rfl) (fun β ds k=>by kernel_rfl)
noncomputable def Lo (C:ag) (data:List V) (a b':Int):Option (List V):=
 Bo C data (IntKind.wrap .i64 (b'-a)) (IntKind.wrap .i64 (a+(IntKind.wrap .i64 (1*(IntKind.wrap .i64 (Int.tdiv (IntKind.wrap .i64 (b'-a)) 4)))))) (IntKind.wrap .i64 (a+(IntKind.wrap .i64 (2*(IntKind.wrap .i64 (Int.tdiv (IntKind.wrap .i64 (b'-a)) 4)))))) (IntKind.wrap .i64 (a+(IntKind.wrap .i64 (3*(IntKind.wrap .i64 (Int.tdiv (IntKind.wrap .i64 (b'-a)) 4)))))) (decide (((IntKind.wrap .i64 (b'-a)):Int)≥8)) 0 (un fun (Lp:Int) (S6:Int)=>
  bif (S6:Int)==0 then
   some [.int .i64 Lp,.int .i64 1]
  else
   bif (S6:Int)==12 then
   some [.int .i64 Lp,.int .i64 2]
   else
   some [.int .i64 Lp,.int .i64 0])
theorem S7 {data:List V} {a b':Int} {r:Option (List V)} (h:Lo CC data a b'=r):CC Av [.list aa data,.int .i64 a,.int .i64 b']=r:=
 a9 (key:=114) (L:=S4 CC) (bs:=[.cond 34 (aw [1,1,1,1,1,1,0,1,0] sD) (aw [1,1,1,1,1,1,0,1,1] sD)]) (by kernel_rfl) (bA (aeO CC) ax) (aZ (by kernel_rfl) h)
noncomputable def S8 (C:ag) (data:List V) (a b' c gW:Int):Option (List V):=
 (C wX [.list aa data,.int .i64 a,.int .i64 b',.int .i64 gW]).bind fun r1=>
 (C wX [.list aa data,.int .i64 ((V.nth (r1.drop 1) 0).toInt),.int .i64 c,.int .i64 ((V.nth (r1.drop 2) 0).toInt)]).bind fun r2=>
 (C wX [.list aa data,.int .i64 ((V.nth r1 0).toInt),.int .i64 ((V.nth r2 0).toInt),.int .i64 ((V.nth (r2.drop 2) 0).toInt)]).bind fun r3=>
 some [.int .i64 ((V.nth (r3.drop 1) 0).toInt),.int .i64 ((V.nth (r3.drop 2) 0).toInt)]
theorem aeP {data:List V} {a b' c gW:Int} {r:Option (List V)} (h:S8 CC data a b' c gW=r):CC Ax [.list aa data,.int .i64 a,.int .i64 b',.int .i64 c,.int .i64 gW]=r:=
 a9 (key:=125) (L:=cm) (bs:=[]) (by kernel_rfl) ax (aZ (by kernel_rfl) h)
noncomputable def Lq (C:ag) (data:List V) (a b' gW:Int):Option (List V):=
 (idx data b').bind fun x1=>
 (idx data a).bind fun x2=>
 (C bp [.int .i64 ((x1.cell 0).toInt),.int .i64 ((x1.cell 1).toInt),.list aa ((x1.cell 2).toList),.int .i64 ((x2.cell 0).toInt),.int .i64 ((x2.cell 1).toInt),.list aa ((x2.cell 2).toList)]).bind fun r3=>
 bif decide ((((V.nth r3 0).toInt):Int)<0) then
  some [.int .i64 b',.int .i64 a,.int .i64 (IntKind.wrap .i64 (gW+1))]
 else
  some [.int .i64 a,.int .i64 b',.int .i64 gW]
theorem S9 {data:List V} {a b' gW:Int} {r:Option (List V)} (h:Lq CC data a b' gW=r):CC wX [.list aa data,.int .i64 a,.int .i64 b',.int .i64 gW]=r:=
 a9 (key:=126) (L:=cm) (bs:=[]) (by kernel_rfl) ax (aZ (by kernel_rfl) h)
noncomputable def Ta (C:ag) (data:List V) (a gW:Int):Option (List V):=
 (C Ax [.list aa data,.int .i64 (IntKind.wrap .i64 (a-1)),.int .i64 a,.int .i64 (IntKind.wrap .i64 (a+1)),.int .i64 gW]).bind fun r1=>
 some [.int .i64 ((V.nth r1 0).toInt),.int .i64 ((V.nth (r1.drop 1) 0).toInt)]
theorem aeQ {data:List V} {a gW:Int} {r:Option (List V)} (h:Ta CC data a gW=r):CC wW [.list aa data,.int .i64 a,.int .i64 gW]=r:=
 a9 (key:=124) (L:=cm) (bs:=[]) (by kernel_rfl) ax (aZ (by kernel_rfl) h)
noncomputable abbrev xP:Code:=cC Try.prog (ay.aT 113)
noncomputable def FK (C:ag) (a length xQ jL other:Int) (t45:Bool) (ak:List V) (Bp:Int) {β:Type} (kr:(Int)→Option β):Option β:=
 bif t45 then
  kr (IntKind.wrap .i64 (other-length))
 else
  kr other
noncomputable def Bq (C:ag) (a length xQ jL:Int) (ak:List V) (Bp:Int) {β:Type} (kn:(Int × (List V) × Int)→Option β) (kr:(Int × Bool × (List V) × Int)→Option β):Option β:=
 bif decide ((jL:Int)≤(IntKind.wrap .i64 ((IntKind.wrap .i64 (a+(IntKind.wrap .i64 (2*(IntKind.wrap .i64 (Int.tdiv length 4))))))+1))) then
  (C EU [.int .u64 Bp]).bind fun r2=>
  FK C a length xQ jL (IntKind.wrap .i64 (IntKind.wrap .u64 ((BitVec.ofInt (IntKind.bits .u64) ((V.nth r2 0).toInt)&&&BitVec.ofInt (IntKind.bits .u64) (IntKind.wrap .u64 (xQ-1))).toNat))) (decide (((IntKind.wrap .i64 (IntKind.wrap .u64 ((BitVec.ofInt (IntKind.bits .u64) ((V.nth r2 0).toInt)&&&BitVec.ofInt (IntKind.bits .u64) (IntKind.wrap .u64 (xQ-1))).toNat))):Int)≥length)) ak ((V.nth (r2.drop 1) 0).toInt) (fun (uT:Int)=>
   bif (decide (0≤(IntKind.wrap .i64 (a+uT))))&&(decide ((IntKind.wrap .i64 (a+uT))<(ak.length:Int))) then
   (ak[(IntKind.wrap .i64 (a+uT):Int).toNat]?).bind fun x4=>
   bif (decide (0≤jL))&&(decide (jL<(ak.length:Int))) then
    (ak[(jL:Int).toNat]?).bind fun x5=>
    bif (decide (0≤jL))&&(decide (jL<(ak.length:Int))) then
    (ak[(jL:Int).toNat]?).bind fun x6=>
    bif (decide (0≤(IntKind.wrap .i64 (a+uT))))&&(decide ((IntKind.wrap .i64 (a+uT))<((ak.set ((jL:Int).toNat) (.agg [.int .i64 ((x4.cell 0).toInt),.int .i64 ((x4.cell 1).toInt),.list aa ((x4.cell 2).toList)])).length:Int))) then
     ((ak.set ((jL:Int).toNat) (.agg [.int .i64 ((x4.cell 0).toInt),.int .i64 ((x4.cell 1).toInt),.list aa ((x4.cell 2).toList)]))[(IntKind.wrap .i64 (a+uT):Int).toNat]?).bind fun x7=>
     kn (IntKind.wrap .i64 (jL+1),(ak.set ((jL:Int).toNat) (.agg [.int .i64 ((x4.cell 0).toInt),.int .i64 ((x4.cell 1).toInt),.list aa ((x4.cell 2).toList)])).set ((IntKind.wrap .i64 (a+uT):Int).toNat) (.agg [.int .i64 ((x5.cell 0).toInt),.int .i64 ((x5.cell 1).toInt),.list aa ((x5.cell 2).toList)]),(V.nth (r2.drop 1) 0).toInt)
    else none
    else none
   else none
   else none)
 else
  kr (jL,decide ((jL:Int)≤(IntKind.wrap .i64 ((IntKind.wrap .i64 (a+(IntKind.wrap .i64 (2*(IntKind.wrap .i64 (Int.tdiv length 4))))))+1))),ak,Bp)
noncomputable def FL (C:ag) (a length xQ:Int):(Int × (List V) × Int)→Option ((Int × (List V) × Int) ⊕ (Int × Bool × (List V) × Int)):=un fun jL=>un fun ak Bp=>Bq C a length xQ jL ak Bp (fun y=>some (.inl y)) (fun r=>some (.inr r))
noncomputable def Tb (C:ag):cp:=fun β n ds k=>
 bif Nat.beq n 735 then iN Ka [[1,2,3,4,0,7,8]] (@FK C) ds k else
 bif Nat.beq n 81 then bW Kb [false,false,false,true,true,true] [[1,2,3,0,0,0,0]] (@Bq C) ds k else
 none
abbrev Tc (C:ag) (b:cj):Prop:=cl Try.prog ay C (Tb C) 113 (cH Try.prog (ay.aT 113)) (ay.sin 113).bc.length b
theorem aeR (C:ag):Tc C (.cond 45 (aw [1,1,0,1,1,1,0,0,1,0,0,1,0,1,0] xP) (aw [1,1,0,1,1,1,0,0,1,0,0,1,0,1,1] xP)):=
 jh Ka [[1,2,3,4,0,7,8]] (@FK C) (by kernel_rfl) (bf (bs:=[]) (by kernel_rfl) ax) (bf (bs:=[]) (by kernel_rfl) ax) (fun ds=>by kernel_rfl) (fun i β k=>by kernel_rfl) (fun β ds k=>by kernel_rfl)
theorem aeS (C:ag):Tc C (.loop (aw [1,1,0,1,1,1,0,0] xP)):=
 ca Kb [false,false,false,true,true,true] [[1,2,3,0,0,0,0]] (@Bq C) (by kernel_rfl) (bf (bs:=[.cond 45 (aw [1,1,0,1,1,1,0,0,1,0,0,1,0,1,0] xP) (aw [1,1,0,1,1,1,0,0,1,0,0,1,0,1,1] xP)]) (by kernel_rfl) (bA (aeR C) ax)) (fun ds=>by kernel_rfl) (fun i x=>by kernel_rfl) (fun i x β k=>by kernel_rfl) (fun β ds k=>by kernel_rfl)
noncomputable def Td (C:ag) (a b':Int) (ak:List V):Option (List V):=
 bif decide (((IntKind.wrap .i64 (b'-a)):Int)≥8) then
  (C ET [.int .i64 (IntKind.wrap .i64 (b'-a))]).bind fun r1=>
  (Loop (FL C a (IntKind.wrap .i64 (b'-a)) ((V.nth r1 0).toInt)) (IntKind.wrap .i64 ((IntKind.wrap .i64 (a+(IntKind.wrap .i64 (2*(IntKind.wrap .i64 (Int.tdiv (IntKind.wrap .i64 (b'-a)) 4))))))-1),ak,IntKind.wrap .u64 (IntKind.wrap .i64 (b'-a)))).bind (un fun (aj7:Int)=>un fun (sk:Bool)=>un fun (oJ:List V) (aj8:Int)=>
   some [.list aa oJ])
 else
  some [.list aa ak]
theorem aeT {a b':Int} {ak:List V} {r:Option (List V)} (h:Td CC a b' ak=r):CC EO [.int .i64 a,.int .i64 b',.list aa ak]=r:=
 a9 (key:=113) (L:=Tb CC) (bs:=[.loop (aw [1,1,0,1,1,1,0,0] xP)]) (by kernel_rfl) (bA (aeS CC) ax) (aZ (by kernel_rfl) h)
noncomputable def Te (C:ag) (iT:Int):Option (List V):=
 some [.int .u64 (IntKind.wrap .u64 ((BitVec.ofInt (IntKind.bits .u64) (IntKind.wrap .u64 ((BitVec.ofInt (IntKind.bits .u64) (IntKind.wrap .u64 ((BitVec.ofInt (IntKind.bits .u64) iT ^^^ BitVec.ofInt (IntKind.bits .u64) (IntKind.wrap .u64 (iT*2^(min (13:Int).toNat (IntKind.bits .u64))))).toNat)) ^^^ BitVec.ofInt (IntKind.bits .u64) (Int.fdiv (IntKind.wrap .u64 ((BitVec.ofInt (IntKind.bits .u64) iT ^^^ BitVec.ofInt (IntKind.bits .u64) (IntKind.wrap .u64 (iT*2^(min (13:Int).toNat (IntKind.bits .u64))))).toNat)) (2^(min (7:Int).toNat (IntKind.bits .u64))))).toNat)) ^^^ BitVec.ofInt (IntKind.bits .u64) (IntKind.wrap .u64 ((IntKind.wrap .u64 ((BitVec.ofInt (IntKind.bits .u64) (IntKind.wrap .u64 ((BitVec.ofInt (IntKind.bits .u64) iT ^^^ BitVec.ofInt (IntKind.bits .u64) (IntKind.wrap .u64 (iT*2^(min (13:Int).toNat (IntKind.bits .u64))))).toNat)) ^^^ BitVec.ofInt (IntKind.bits .u64) (Int.fdiv (IntKind.wrap .u64 ((BitVec.ofInt (IntKind.bits .u64) iT ^^^ BitVec.ofInt (IntKind.bits .u64) (IntKind.wrap .u64 (iT*2^(min (13:Int).toNat (IntKind.bits .u64))))).toNat)) (2^(min (7:Int).toNat (IntKind.bits .u64))))).toNat))*2^(min (17:Int).toNat (IntKind.bits .u64))))).toNat)),.int .u64 (IntKind.wrap .u64 ((BitVec.ofInt (IntKind.bits .u64) (IntKind.wrap .u64 ((BitVec.ofInt (IntKind.bits .u64) (IntKind.wrap .u64 ((BitVec.ofInt (IntKind.bits .u64) iT ^^^ BitVec.ofInt (IntKind.bits .u64) (IntKind.wrap .u64 (iT*2^(min (13:Int).toNat (IntKind.bits .u64))))).toNat)) ^^^ BitVec.ofInt (IntKind.bits .u64) (Int.fdiv (IntKind.wrap .u64 ((BitVec.ofInt (IntKind.bits .u64) iT ^^^ BitVec.ofInt (IntKind.bits .u64) (IntKind.wrap .u64 (iT*2^(min (13:Int).toNat (IntKind.bits .u64))))).toNat)) (2^(min (7:Int).toNat (IntKind.bits .u64))))).toNat)) ^^^ BitVec.ofInt (IntKind.bits .u64) (IntKind.wrap .u64 ((IntKind.wrap .u64 ((BitVec.ofInt (IntKind.bits .u64) (IntKind.wrap .u64 ((BitVec.ofInt (IntKind.bits .u64) iT ^^^ BitVec.ofInt (IntKind.bits .u64) (IntKind.wrap .u64 (iT*2^(min (13:Int).toNat (IntKind.bits .u64))))).toNat)) ^^^ BitVec.ofInt (IntKind.bits .u64) (Int.fdiv (IntKind.wrap .u64 ((BitVec.ofInt (IntKind.bits .u64) iT ^^^ BitVec.ofInt (IntKind.bits .u64) (IntKind.wrap .u64 (iT*2^(min (13:Int).toNat (IntKind.bits .u64))))).toNat)) (2^(min (7:Int).toNat (IntKind.bits .u64))))).toNat))*2^(min (17:Int).toNat (IntKind.bits .u64))))).toNat))]
theorem aeU {iT:Int} {r:Option (List V)} (h:Te CC iT=r):CC EU [.int .u64 iT]=r:=
 a9 (key:=123) (L:=cm) (bs:=[]) (by kernel_rfl) ax (aZ (by kernel_rfl) h)
noncomputable def Tf (C:ag) (length:Int):Option (List V):=
 (C Ar [.int .u64 (IntKind.wrap .u64 length)]).bind fun r1=>
 bif decide (0≤((V.nth r1 0).toInt)) then
  some [.int .u64 (IntKind.wrap .u64 (1*2^(min ((V.nth r1 0).toInt).toNat (IntKind.bits .u64))))]
 else none
theorem aeV {length:Int} {r:Option (List V)} (h:Tf CC length=r):CC ET [.int .i64 length]=r:=
 a9 (key:=122) (L:=cm) (bs:=[]) (by kernel_rfl) ax (aZ (by kernel_rfl) h)
noncomputable def Tg (C:ag) (x:Int):Option (List V):=
 (C ES [.int .u64 x]).bind fun r1=>
 some [.int .i64 ((V.nth r1 0).toInt)]
theorem aeW {x:Int} {r:Option (List V)} (h:Tg CC x=r):CC Ar [.int .u64 x]=r:=
 a9 (key:=110) (L:=cm) (bs:=[]) (by kernel_rfl) ax (aZ (by kernel_rfl) h)
noncomputable abbrev sE:Code:=cC Try.prog (ay.aT 120)
noncomputable def uU (C:ag) (x n:Int) (t4:Bool) {β:Type} (kr:(Int × Int)→Option β):Option β:=
 bif t4 then
  kr (Int.fdiv x (2^(min (32:Int).toNat (IntKind.bits .u64))),32)
 else
  kr (x,n)
noncomputable def uV (C:ag) (x n:Int) (t8:Bool) {β:Type} (kr:(Int × Int)→Option β):Option β:=
 bif t8 then
  kr (Int.fdiv x (2^(min (16:Int).toNat (IntKind.bits .u64))),IntKind.wrap .i64 (n+16))
 else
  kr (x,n)
noncomputable def Th (C:ag):cp:=fun β n ds k=>
 bif Nat.beq n 79 then iN Ks [[0,0]] (@uU C) ds k else
 bif Nat.beq n 143 then iN Kt [[0,0]] (@uV C) ds k else
 none
abbrev Ti (C:ag) (b:cj):Prop:=cl Try.prog ay C (Th C) 120 (cH Try.prog (ay.aT 120)) (ay.sin 120).bc.length b
theorem aeX (C:ag):Ti C (.cond 4 (aw [1,0,1,0] sE) (aw [1,0,1,1] sE)):=
 jh Ks [[0,0]] (@uU C) (by kernel_rfl) (bf (bs:=[]) (by kernel_rfl) ax) (bf (bs:=[]) (by kernel_rfl) ax) (fun ds=>by kernel_rfl) (fun i β k=>by kernel_rfl) (fun β ds k=>by kernel_rfl)
theorem aeY (C:ag):Ti C (.cond 8 (aw [1,1,0,1,0] sE) (aw [1,1,0,1,1] sE)):=
 jh Kt [[0,0]] (@uV C) (by kernel_rfl) (bf (bs:=[]) (by kernel_rfl) ax) (bf (bs:=[]) (by kernel_rfl) ax) (fun ds=>by kernel_rfl) (fun i β k=>by kernel_rfl) (fun β ds k=>by kernel_rfl)
noncomputable def aeZ (C:ag) (x:Int):Option (List V):=
 uU C x 0 (decide ((x:Int)≥4294967296)) (un fun (im:Int) (Br:Int)=>
  uV C im Br (decide ((im:Int)≥65536)) (un fun (Bs:Int) (Tj:Int)=>
   bif decide ((Bs:Int)≥256) then
    (bif decide (0≤(IntKind.wrap .u8 (Int.fdiv Bs (2^(min (8:Int).toNat (IntKind.bits .u64)))))) then (([0,1,2,2,3,3,3,3,4,4,4,4,4,4,4,4,5,5,5,5,5,5,5,5,5,5,5,5,5,5,5,5,6,6,6,6,6,6,6,6,6,6,6,6,6,6,6,6,6,6,6,6,6,6,6,6,6,6,6,6,6,6,6,6,7,7,7,7,7,7,7,7,7,7,7,7,7,7,7,7,7,7,7,7,7,7,7,7,7,7,7,7,7,7,7,7,7,7,7,7,7,7,7,7,7,7,7,7,7,7,7,7,7,7,7,7,7,7,7,7,7,7,7,7,7,7,7,7,8,8,8,8,8,8,8,8,8,8,8,8,8,8,8,8,8,8,8,8,8,8,8,8,8,8,8,8,8,8,8,8,8,8,8,8,8,8,8,8,8,8,8,8,8,8,8,8,8,8,8,8,8,8,8,8,8,8,8,8,8,8,8,8,8,8,8,8,8,8,8,8,8,8,8,8,8,8,8,8,8,8,8,8,8,8,8,8,8,8,8,8,8,8,8,8,8,8,8,8,8,8,8,8,8,8,8,8,8,8,8,8,8,8,8,8,8,8,8,8,8,8,8,8,8,8,8,8]:List UInt8)[(IntKind.wrap .u8 (Int.fdiv Bs (2^(min (8:Int).toNat (IntKind.bits .u64)))):Int).toNat]?).map fun b=>V.int .u8 b.toNat else none).bind fun x5=>
    some [.int .i64 (IntKind.wrap .i64 ((IntKind.wrap .i64 (Tj+8))+(IntKind.wrap .i64 x5.toInt)))]
   else
    (bif decide (0≤(IntKind.wrap .u8 Bs)) then (([0,1,2,2,3,3,3,3,4,4,4,4,4,4,4,4,5,5,5,5,5,5,5,5,5,5,5,5,5,5,5,5,6,6,6,6,6,6,6,6,6,6,6,6,6,6,6,6,6,6,6,6,6,6,6,6,6,6,6,6,6,6,6,6,7,7,7,7,7,7,7,7,7,7,7,7,7,7,7,7,7,7,7,7,7,7,7,7,7,7,7,7,7,7,7,7,7,7,7,7,7,7,7,7,7,7,7,7,7,7,7,7,7,7,7,7,7,7,7,7,7,7,7,7,7,7,7,7,8,8,8,8,8,8,8,8,8,8,8,8,8,8,8,8,8,8,8,8,8,8,8,8,8,8,8,8,8,8,8,8,8,8,8,8,8,8,8,8,8,8,8,8,8,8,8,8,8,8,8,8,8,8,8,8,8,8,8,8,8,8,8,8,8,8,8,8,8,8,8,8,8,8,8,8,8,8,8,8,8,8,8,8,8,8,8,8,8,8,8,8,8,8,8,8,8,8,8,8,8,8,8,8,8,8,8,8,8,8,8,8,8,8,8,8,8,8,8,8,8,8,8,8,8,8,8,8]:List UInt8)[(IntKind.wrap .u8 Bs:Int).toNat]?).map fun b=>V.int .u8 b.toNat else none).bind fun x6=>
    some [.int .i64 (IntKind.wrap .i64 (Tj+(IntKind.wrap .i64 x6.toInt)))]))
theorem Tk {x:Int} {r:Option (List V)} (h:aeZ CC x=r):CC ES [.int .u64 x]=r:=
 a9 (key:=120) (L:=Th CC) (bs:=[.cond 4 (aw [1,0,1,0] sE) (aw [1,0,1,1] sE),.cond 8 (aw [1,1,0,1,0] sE) (aw [1,1,0,1,1] sE)]) (by kernel_rfl) (bA (aeX CC) (bA (aeY CC) ax)) (aZ (by kernel_rfl) h)
noncomputable abbrev lR:Code:=cC Try.prog (ay.aT 109)
noncomputable def xR (C:ag) (a b' jm:Int) (eG eY:Bool) (length:Int) (t39:Bool) (ak:List V) {β:Type} (kr:(Int × (List V))→Option β):Option β:=
 bif t39 then
  (C EO [.int .i64 a,.int .i64 b',.list aa ak]).bind fun r3=>
  kr (IntKind.wrap .i64 (jm-1),(V.nth r3 0).toList)
 else
  kr (jm,ak)
noncomputable def xS (C:ag) (a b' jm:Int) (eG eY:Bool) (length pivot hint:Int) (t56:Bool) (ak:List V) {β:Type} (kr:(Int × Int × (List V))→Option β):Option β:=
 bif t56 then
  (C EP [.int .i64 a,.int .i64 b',.list aa ak]).bind fun r7=>
  kr (IntKind.wrap .i64 ((IntKind.wrap .i64 (b'-1))-(IntKind.wrap .i64 (pivot-a))),1,(V.nth r7 0).toList)
 else
  kr (pivot,hint,ak)
noncomputable def mF (C:ag) (a b' jm:Int) (eG eY:Bool) (length pivot:Int) (t75:Bool) (ak:List V) {β:Type} (kr:((Bool × (List V)) ⊕ (List V))→Option β):Option β:=
 bif t75 then
  (C ER [.int .i64 a,.int .i64 b',.list aa ak]).bind fun dM=>
  bif (V.nth dM 0).toBool then
  kr (.inl ((V.nth dM 0).toBool,(V.nth (dM.drop 1) 0).toList))
  else
  kr (.inr ((V.nth (dM.drop 1) 0).toList))
 else
  kr (.inr ak)
noncomputable def pM (C:ag) (a b' jm:Int) (eG eY:Bool) (ak:List V) {β:Type} (kn:(Int × Int × Int × Bool × Bool × (List V))→Option β) (kr:(List V)→Option β):Option β:=
 bif decide (((IntKind.wrap .i64 (b'-a)):Int)≤12) then
  (C As [.int .i64 a,.int .i64 b',.list aa ak]).bind fun r1=>
  kr ((V.nth r1 0).toList)
 else
  bif (jm:Int)==0 then
  (C Au [.int .i64 a,.int .i64 b',.list aa ak]).bind fun r2=>
  kr ((V.nth r2 0).toList)
  else
  xR C a b' jm eG eY (IntKind.wrap .i64 (b'-a)) (!eG) ak (un fun (cG:Int) (Bt:List V)=>
   (C Av [.list aa Bt,.int .i64 a,.int .i64 b']).bind fun r6=>
   xS C a b' cG eG eY (IntKind.wrap .i64 (b'-a)) ((V.nth r6 0).toInt) ((V.nth (r6.drop 1) 0).toInt) ((((V.nth (r6.drop 1) 0).toInt):Int)==2) Bt (un fun (dN:Int)=>un fun (Lr:Int) (oJ:List V)=>
    bif eG then
     bif eY then
     mF C a b' cG eG eY (IntKind.wrap .i64 (b'-a)) dN ((Lr:Int)==1) oJ (b7 (un fun (Fg:Bool) (Lf:List V)=>
      kr Lf) (fun (uW:List V)=>
      bif decide ((a:Int)>0) then
       bif (decide (0≤(IntKind.wrap .i64 (a-1))))&&(decide ((IntKind.wrap .i64 (a-1))<(uW.length:Int))) then
       (uW[(IntKind.wrap .i64 (a-1):Int).toNat]?).bind fun fN=>
       bif (decide (0≤dN))&&(decide (dN<(uW.length:Int))) then
        (uW[(dN:Int).toNat]?).bind fun fb=>
        (C bp [.int .i64 ((fN.cell 0).toInt),.int .i64 ((fN.cell 1).toInt),.list aa ((fN.cell 2).toList),.int .i64 ((fb.cell 0).toInt),.int .i64 ((fb.cell 1).toInt),.list aa ((fb.cell 2).toList)]).bind fun dt=>
        bif !(decide ((((V.nth dt 0).toInt):Int)<0)) then
        (C ur [.int .i64 a,.int .i64 b',.int .i64 dN,.list aa uW]).bind fun iU=>
        kn ((V.nth iU 0).toInt,b',cG,eG,eY,(V.nth (iU.drop 1) 0).toList)
        else
        (C np [.int .i64 a,.int .i64 b',.int .i64 dN,.list aa uW]).bind fun c9=>
        bif decide (((IntKind.wrap .i64 (((V.nth c9 0).toInt)-a)):Int)<(IntKind.wrap .i64 (b'-((V.nth c9 0).toInt)))) then
         (C gq [.int .i64 a,.int .i64 ((V.nth c9 0).toInt),.int .i64 cG,.list aa ((V.nth (c9.drop 2) 0).toList)]).bind fun fx=>
         kn (IntKind.wrap .i64 (((V.nth c9 0).toInt)+1),b',cG,decide (((IntKind.wrap .i64 (((V.nth c9 0).toInt)-a)):Int)≥(IntKind.wrap .i64 (Int.tdiv (IntKind.wrap .i64 (b'-a)) 8))),(V.nth (c9.drop 1) 0).toBool,(V.nth fx 0).toList)
        else
         (C gq [.int .i64 (IntKind.wrap .i64 (((V.nth c9 0).toInt)+1)),.int .i64 b',.int .i64 cG,.list aa ((V.nth (c9.drop 2) 0).toList)]).bind fun mG=>
         kn (a,(V.nth c9 0).toInt,cG,decide (((IntKind.wrap .i64 (b'-((V.nth c9 0).toInt))):Int)≥(IntKind.wrap .i64 (Int.tdiv (IntKind.wrap .i64 (b'-a)) 8))),(V.nth (c9.drop 1) 0).toBool,(V.nth mG 0).toList)
       else none
       else none
      else
       (C np [.int .i64 a,.int .i64 b',.int .i64 dN,.list aa uW]).bind fun gC=>
       bif decide (((IntKind.wrap .i64 (((V.nth gC 0).toInt)-a)):Int)<(IntKind.wrap .i64 (b'-((V.nth gC 0).toInt)))) then
       (C gq [.int .i64 a,.int .i64 ((V.nth gC 0).toInt),.int .i64 cG,.list aa ((V.nth (gC.drop 2) 0).toList)]).bind fun r23=>
       kn (IntKind.wrap .i64 (((V.nth gC 0).toInt)+1),b',cG,decide (((IntKind.wrap .i64 (((V.nth gC 0).toInt)-a)):Int)≥(IntKind.wrap .i64 (Int.tdiv (IntKind.wrap .i64 (b'-a)) 8))),(V.nth (gC.drop 1) 0).toBool,(V.nth r23 0).toList)
       else
       (C gq [.int .i64 (IntKind.wrap .i64 (((V.nth gC 0).toInt)+1)),.int .i64 b',.int .i64 cG,.list aa ((V.nth (gC.drop 2) 0).toList)]).bind fun KS=>
       kn (a,(V.nth gC 0).toInt,cG,decide (((IntKind.wrap .i64 (b'-((V.nth gC 0).toInt))):Int)≥(IntKind.wrap .i64 (Int.tdiv (IntKind.wrap .i64 (b'-a)) 8))),(V.nth (gC.drop 1) 0).toBool,(V.nth KS 0).toList)))
     else
     mF C a b' cG eG eY (IntKind.wrap .i64 (b'-a)) dN false oJ (b7 (un fun (aaB:Bool) (ae0:List V)=>
      kr ae0) (fun (qT:List V)=>
      bif decide ((a:Int)>0) then
       bif (decide (0≤(IntKind.wrap .i64 (a-1))))&&(decide ((IntKind.wrap .i64 (a-1))<(qT.length:Int))) then
       (qT[(IntKind.wrap .i64 (a-1):Int).toNat]?).bind fun uP=>
       bif (decide (0≤dN))&&(decide (dN<(qT.length:Int))) then
        (qT[(dN:Int).toNat]?).bind fun uQ=>
        (C bp [.int .i64 ((uP.cell 0).toInt),.int .i64 ((uP.cell 1).toInt),.list aa ((uP.cell 2).toList),.int .i64 ((uQ.cell 0).toInt),.int .i64 ((uQ.cell 1).toInt),.list aa ((uQ.cell 2).toList)]).bind fun sB=>
        bif !(decide ((((V.nth sB 0).toInt):Int)<0)) then
        (C ur [.int .i64 a,.int .i64 b',.int .i64 dN,.list aa qT]).bind fun Tl=>
        kn ((V.nth Tl 0).toInt,b',cG,eG,eY,(V.nth (Tl.drop 1) 0).toList)
        else
        (C np [.int .i64 a,.int .i64 b',.int .i64 dN,.list aa qT]).bind fun nF=>
        bif decide (((IntKind.wrap .i64 (((V.nth nF 0).toInt)-a)):Int)<(IntKind.wrap .i64 (b'-((V.nth nF 0).toInt)))) then
         (C gq [.int .i64 a,.int .i64 ((V.nth nF 0).toInt),.int .i64 cG,.list aa ((V.nth (nF.drop 2) 0).toList)]).bind fun r33=>
         kn (IntKind.wrap .i64 (((V.nth nF 0).toInt)+1),b',cG,decide (((IntKind.wrap .i64 (((V.nth nF 0).toInt)-a)):Int)≥(IntKind.wrap .i64 (Int.tdiv (IntKind.wrap .i64 (b'-a)) 8))),(V.nth (nF.drop 1) 0).toBool,(V.nth r33 0).toList)
        else
         (C gq [.int .i64 (IntKind.wrap .i64 (((V.nth nF 0).toInt)+1)),.int .i64 b',.int .i64 cG,.list aa ((V.nth (nF.drop 2) 0).toList)]).bind fun r34=>
         kn (a,(V.nth nF 0).toInt,cG,decide (((IntKind.wrap .i64 (b'-((V.nth nF 0).toInt))):Int)≥(IntKind.wrap .i64 (Int.tdiv (IntKind.wrap .i64 (b'-a)) 8))),(V.nth (nF.drop 1) 0).toBool,(V.nth r34 0).toList)
       else none
       else none
      else
       (C np [.int .i64 a,.int .i64 b',.int .i64 dN,.list aa qT]).bind fun nG=>
       bif decide (((IntKind.wrap .i64 (((V.nth nG 0).toInt)-a)):Int)<(IntKind.wrap .i64 (b'-((V.nth nG 0).toInt)))) then
       (C gq [.int .i64 a,.int .i64 ((V.nth nG 0).toInt),.int .i64 cG,.list aa ((V.nth (nG.drop 2) 0).toList)]).bind fun r36=>
       kn (IntKind.wrap .i64 (((V.nth nG 0).toInt)+1),b',cG,decide (((IntKind.wrap .i64 (((V.nth nG 0).toInt)-a)):Int)≥(IntKind.wrap .i64 (Int.tdiv (IntKind.wrap .i64 (b'-a)) 8))),(V.nth (nG.drop 1) 0).toBool,(V.nth r36 0).toList)
       else
       (C gq [.int .i64 (IntKind.wrap .i64 (((V.nth nG 0).toInt)+1)),.int .i64 b',.int .i64 cG,.list aa ((V.nth (nG.drop 2) 0).toList)]).bind fun r37=>
       kn (a,(V.nth nG 0).toInt,cG,decide (((IntKind.wrap .i64 (b'-((V.nth nG 0).toInt))):Int)≥(IntKind.wrap .i64 (Int.tdiv (IntKind.wrap .i64 (b'-a)) 8))),(V.nth (nG.drop 1) 0).toBool,(V.nth r37 0).toList)))
    else
     mF C a b' cG eG eY (IntKind.wrap .i64 (b'-a)) dN false oJ (b7 (un fun (Q4:Bool) (ae1:List V)=>
      kr ae1) (fun (jK:List V)=>
      bif decide ((a:Int)>0) then
      bif (decide (0≤(IntKind.wrap .i64 (a-1))))&&(decide ((IntKind.wrap .i64 (a-1))<(jK.length:Int))) then
       (jK[(IntKind.wrap .i64 (a-1):Int).toNat]?).bind fun mE=>
       bif (decide (0≤dN))&&(decide (dN<(jK.length:Int))) then
       (jK[(dN:Int).toNat]?).bind fun uS=>
       (C bp [.int .i64 ((mE.cell 0).toInt),.int .i64 ((mE.cell 1).toInt),.list aa ((mE.cell 2).toList),.int .i64 ((uS.cell 0).toInt),.int .i64 ((uS.cell 1).toInt),.list aa ((uS.cell 2).toList)]).bind fun r43=>
       bif !(decide ((((V.nth r43 0).toInt):Int)<0)) then
        (C ur [.int .i64 a,.int .i64 b',.int .i64 dN,.list aa jK]).bind fun Tm=>
        kn ((V.nth Tm 0).toInt,b',cG,eG,eY,(V.nth (Tm.drop 1) 0).toList)
       else
        (C np [.int .i64 a,.int .i64 b',.int .i64 dN,.list aa jK]).bind fun nH=>
        bif decide (((IntKind.wrap .i64 (((V.nth nH 0).toInt)-a)):Int)<(IntKind.wrap .i64 (b'-((V.nth nH 0).toInt)))) then
        (C gq [.int .i64 a,.int .i64 ((V.nth nH 0).toInt),.int .i64 cG,.list aa ((V.nth (nH.drop 2) 0).toList)]).bind fun r46=>
        kn (IntKind.wrap .i64 (((V.nth nH 0).toInt)+1),b',cG,decide (((IntKind.wrap .i64 (((V.nth nH 0).toInt)-a)):Int)≥(IntKind.wrap .i64 (Int.tdiv (IntKind.wrap .i64 (b'-a)) 8))),(V.nth (nH.drop 1) 0).toBool,(V.nth r46 0).toList)
        else
        (C gq [.int .i64 (IntKind.wrap .i64 (((V.nth nH 0).toInt)+1)),.int .i64 b',.int .i64 cG,.list aa ((V.nth (nH.drop 2) 0).toList)]).bind fun r47=>
        kn (a,(V.nth nH 0).toInt,cG,decide (((IntKind.wrap .i64 (b'-((V.nth nH 0).toInt))):Int)≥(IntKind.wrap .i64 (Int.tdiv (IntKind.wrap .i64 (b'-a)) 8))),(V.nth (nH.drop 1) 0).toBool,(V.nth r47 0).toList)
       else none
      else none
      else
      (C np [.int .i64 a,.int .i64 b',.int .i64 dN,.list aa jK]).bind fun nJ=>
      bif decide (((IntKind.wrap .i64 (((V.nth nJ 0).toInt)-a)):Int)<(IntKind.wrap .i64 (b'-((V.nth nJ 0).toInt)))) then
       (C gq [.int .i64 a,.int .i64 ((V.nth nJ 0).toInt),.int .i64 cG,.list aa ((V.nth (nJ.drop 2) 0).toList)]).bind fun r49=>
       kn (IntKind.wrap .i64 (((V.nth nJ 0).toInt)+1),b',cG,decide (((IntKind.wrap .i64 (((V.nth nJ 0).toInt)-a)):Int)≥(IntKind.wrap .i64 (Int.tdiv (IntKind.wrap .i64 (b'-a)) 8))),(V.nth (nJ.drop 1) 0).toBool,(V.nth r49 0).toList)
      else
       (C gq [.int .i64 (IntKind.wrap .i64 (((V.nth nJ 0).toInt)+1)),.int .i64 b',.int .i64 cG,.list aa ((V.nth (nJ.drop 2) 0).toList)]).bind fun r50=>
       kn (a,(V.nth nJ 0).toInt,cG,decide (((IntKind.wrap .i64 (b'-((V.nth nJ 0).toInt))):Int)≥(IntKind.wrap .i64 (Int.tdiv (IntKind.wrap .i64 (b'-a)) 8))),(V.nth (nJ.drop 1) 0).toBool,(V.nth r50 0).toList)))))
noncomputable def Tn (C:ag):(Int × Int × Int × Bool × Bool × (List V))→Option ((Int × Int × Int × Bool × Bool × (List V)) ⊕ (List V)):=un fun a=>un fun b'=>un fun jm=>un fun eG=>un fun eY ak=>pM C a b' jm eG eY ak (fun y=>some (.inl y)) (fun r=>some (.inr r))
noncomputable def To (C:ag):cp:=fun β n ds k=>
 bif Nat.beq n 639 then iN J2 [[1,2,0,4,5,6,0]] (@xR C) ds k else
 bif Nat.beq n 911 then iN J3 [[1,2,3,4,5,6,0,0,0]] (@xS C) ds k else
 bif Nat.beq n 1215 then iN J4 [[1,2,3,4,5,6,7,0,0],[1,2,3,4,5,6,7,0]] (@mF C) ds k else
 bif Nat.beq n 33 then bW J5 [true,true,true,true,true,true] [[0]] (@pM C) ds k else
 none
abbrev FM (C:ag) (b:cj):Prop:=cl Try.prog ay C (To C) 109 (cH Try.prog (ay.aT 109)) (ay.sin 109).bc.length b
theorem ae2 (C:ag):FM C (.cond 39 (aw [1,1,0,0,0,1,1,1,0,1,0] lR) (aw [1,1,0,0,0,1,1,1,0,1,1] lR)):=
 jh J2 [[1,2,0,4,5,6,0]] (@xR C) (by kernel_rfl) (bf (bs:=[]) (by kernel_rfl) ax) (bf (bs:=[]) (by kernel_rfl) ax) (fun ds=>by kernel_rfl) (fun i β k=>by kernel_rfl) (fun β ds k=>by kernel_rfl)
theorem ae3 (C:ag):FM C (.cond 56 (aw [1,1,0,0,0,1,1,1,1,1,0,1,0] lR) (aw [1,1,0,0,0,1,1,1,1,1,0,1,1] lR)):=
 jh J3 [[1,2,3,4,5,6,0,0,0]] (@xS C) (by kernel_rfl) (bf (bs:=[]) (by kernel_rfl) ax) (bf (bs:=[]) (by kernel_rfl) ax) (fun ds=>by kernel_rfl) (fun i β k=>by kernel_rfl) (fun β ds k=>by kernel_rfl)
theorem ae4 (C:ag):FM C (.cond 75 (aw [1,1,0,0,0,1,1,1,1,1,1,0,1,0] lR) (aw [1,1,0,0,0,1,1,1,1,1,1,0,1,1] lR)):=
 jh J4 [[1,2,3,4,5,6,7,0,0],[1,2,3,4,5,6,7,0]] (@mF C) (by kernel_rfl) (bf (bs:=[]) (by kernel_rfl) ax) (bf (bs:=[]) (by kernel_rfl) ax) (fun ds=>by kernel_rfl) (fun i β k=>by kernel_rfl) (fun β ds k=>by kernel_rfl)
theorem ae5 (C:ag):FM C (.loop (aw [1,1,0,0] lR)):=
 ca J5 [true,true,true,true,true,true] [[0]] (@pM C) (by kernel_rfl) (bf (bs:=[.cond 39 (aw [1,1,0,0,0,1,1,1,0,1,0] lR) (aw [1,1,0,0,0,1,1,1,0,1,1] lR),.cond 56 (aw [1,1,0,0,0,1,1,1,1,1,0,1,0] lR) (aw [1,1,0,0,0,1,1,1,1,1,0,1,1] lR),.cond 75 (aw [1,1,0,0,0,1,1,1,1,1,1,0,1,0] lR) (aw [1,1,0,0,0,1,1,1,1,1,1,0,1,1] lR)]) (by kernel_rfl) (bA (ae2 C) (bA (ae3 C) (bA (ae4 C) ax)))) (fun ds=>by kernel_rfl) (fun i x=>by kernel_rfl) (fun i x β k=>by kernel_rfl) (fun β ds k=>by kernel_rfl)
noncomputable def Tp (C:ag) (a b' jm:Int) (ak:List V):Option (List V):=
 (Loop (Tn C) (a,b',jm,true,true,ak)).bind (fun (ae6:List V)=>
  some [.list aa ae6])
theorem ae7 {a b' jm:Int} {ak:List V} {r:Option (List V)} (h:Tp CC a b' jm ak=r):CC gq [.int .i64 a,.int .i64 b',.int .i64 jm,.list aa ak]=r:=
 a9 (key:=109) (L:=To CC) (bs:=[.loop (aw [1,1,0,0] lR)]) (by kernel_rfl) (bA (ae5 CC) ax) (aZ (by kernel_rfl) h)
noncomputable def Tq (C:ag) (xs:List V):Option (List V):=
 (C Ar [.int .u64 (IntKind.wrap .u64 (xs.length:Int))]).bind fun r1=>
 (C gq [.int .i64 0,.int .i64 (xs.length:Int),.int .i64 ((V.nth r1 0).toInt),.list aa xs]).bind fun r2=>
 some [.list aa ((V.nth r2 0).toList)]
theorem ae8 {xs:List V} {r:Option (List V)} (h:Tq CC xs=r):CC Aq [.list aa xs]=r:=
 a9 (key:=105) (L:=cm) (bs:=[]) (by kernel_rfl) ax (aZ (by kernel_rfl) h)
end Go.AM
set_option maxRecDepth 100000
set_option maxHeartbeats 4000000
namespace Go.AM.SX
open Go.Proofs Go.Sort
theorem ae9 (a b:XE):bX a b<0↔a.lt b:=Iff.rfl
theorem Tr (a b:XE):(aA a b=true)=(a.lt b):=by rw[sA];rfl
theorem FN (a b:XE):(aA a b=false)= ¬(a.lt b):=by rw[←Tr];simp
theorem xT:SWO aA where
 irrefl x:=by rw[FN];exact XE.lt_irrefl x
 trans x y z:=by simp only[Tr];exact XE.lt_trans
 ntrans x y z:=by simp only[FN];exact XE.adR
def FO:List UInt8:=([0,1,2,2,3,3,3,3,4,4,4,4,4,4,4,4,5,5,5,5,5,5,5,5,5,5,5,5,5,5,5,5,6,6,6,6,6,6,6,6,6,6,6,6,6,6,6,6,6,6,6,6,6,6,6,6,6,6,6,6,6,6,6,6,7,7,7,7,7,7,7,7,7,7,7,7,7,7,7,7,7,7,7,7,7,7,7,7,7,7,7,7,7,7,7,7,7,7,7,7,7,7,7,7,7,7,7,7,7,7,7,7,7,7,7,7,7,7,7,7,7,7,7,7,7,7,7,7,8,8,8,8,8,8,8,8,8,8,8,8,8,8,8,8,8,8,8,8,8,8,8,8,8,8,8,8,8,8,8,8,8,8,8,8,8,8,8,8,8,8,8,8,8,8,8,8,8,8,8,8,8,8,8,8,8,8,8,8,8,8,8,8,8,8,8,8,8,8,8,8,8,8,8,8,8,8,8,8,8,8,8,8,8,8,8,8,8,8,8,8,8,8,8,8,8,8,8,8,8,8,8,8,8,8,8,8,8,8,8,8,8,8,8,8,8,8,8,8,8,8,8,8,8,8,8,8]:List UInt8)
theorem afa:(List.range 256).all (fun y=>match FO[y]? with|some b=>decide (b.toNat≤8)&&(Nat.beq y 0||(decide (1≤b.toNat)&&decide (2^(b.toNat-1)≤y)))|none=>false)=true:=by decide+kernel
theorem Ts {y:Nat} (h:y<256): ∃b,FO[y]? =some b∧b.toNat≤8∧(0<y→1≤b.toNat∧2^(b.toNat-1)≤y):=by
 have:=fh.1 afa y (List.mem_range.2 h)
 cases hb:FO[y]? with
 | none=>rw[hb] at this;cases this
 | some b=>
  rw[hb] at this
  simp only[aK,Bool.or_eq_true,ec] at this
  refine ⟨b,rfl,this.1,fun hy=> ?_⟩
  rcases this.2 with U|U
  ·have:=yA U;omega
  ·exact U
theorem Ls {y t k:Nat} (h:2^(t-1)≤y/2^k) (ht:1≤t):2^(t+k-1)≤y:=by
 have e:t+k-1=(t-1)+k:=by omega
 rw[e,Nat.pow_add]
 exact la (dC _ h) (Nat.div_mul_le_self _ _)
noncomputable def xU (y n:Int):Option (List V):=
(bif decide ((y:Int)≥256) then
    (bif decide (0≤(IntKind.wrap .u8 (Int.fdiv y (2^(min (8:Int).toNat (IntKind.bits .u64)))))) then (([0,1,2,2,3,3,3,3,4,4,4,4,4,4,4,4,5,5,5,5,5,5,5,5,5,5,5,5,5,5,5,5,6,6,6,6,6,6,6,6,6,6,6,6,6,6,6,6,6,6,6,6,6,6,6,6,6,6,6,6,6,6,6,6,7,7,7,7,7,7,7,7,7,7,7,7,7,7,7,7,7,7,7,7,7,7,7,7,7,7,7,7,7,7,7,7,7,7,7,7,7,7,7,7,7,7,7,7,7,7,7,7,7,7,7,7,7,7,7,7,7,7,7,7,7,7,7,7,8,8,8,8,8,8,8,8,8,8,8,8,8,8,8,8,8,8,8,8,8,8,8,8,8,8,8,8,8,8,8,8,8,8,8,8,8,8,8,8,8,8,8,8,8,8,8,8,8,8,8,8,8,8,8,8,8,8,8,8,8,8,8,8,8,8,8,8,8,8,8,8,8,8,8,8,8,8,8,8,8,8,8,8,8,8,8,8,8,8,8,8,8,8,8,8,8,8,8,8,8,8,8,8,8,8,8,8,8,8,8,8,8,8,8,8,8,8,8,8,8,8,8,8,8,8,8,8]:List UInt8)[(IntKind.wrap .u8 (Int.fdiv y (2^(min (8:Int).toNat (IntKind.bits .u64)))):Int).toNat]?).map fun b=>V.int .u8 b.toNat else none).bind fun x5=>
    some [V.int .i64 (IntKind.wrap .i64 ((IntKind.wrap .i64 (n+8))+(IntKind.wrap .i64 x5.toInt)))]
   else
    (bif decide (0≤(IntKind.wrap .u8 y)) then (([0,1,2,2,3,3,3,3,4,4,4,4,4,4,4,4,5,5,5,5,5,5,5,5,5,5,5,5,5,5,5,5,6,6,6,6,6,6,6,6,6,6,6,6,6,6,6,6,6,6,6,6,6,6,6,6,6,6,6,6,6,6,6,6,7,7,7,7,7,7,7,7,7,7,7,7,7,7,7,7,7,7,7,7,7,7,7,7,7,7,7,7,7,7,7,7,7,7,7,7,7,7,7,7,7,7,7,7,7,7,7,7,7,7,7,7,7,7,7,7,7,7,7,7,7,7,7,7,8,8,8,8,8,8,8,8,8,8,8,8,8,8,8,8,8,8,8,8,8,8,8,8,8,8,8,8,8,8,8,8,8,8,8,8,8,8,8,8,8,8,8,8,8,8,8,8,8,8,8,8,8,8,8,8,8,8,8,8,8,8,8,8,8,8,8,8,8,8,8,8,8,8,8,8,8,8,8,8,8,8,8,8,8,8,8,8,8,8,8,8,8,8,8,8,8,8,8,8,8,8,8,8,8,8,8,8,8,8,8,8,8,8,8,8,8,8,8,8,8,8,8,8,8,8,8,8]:List UInt8)[(IntKind.wrap .u8 y:Int).toNat]?).map fun b=>V.int .u8 b.toNat else none).bind fun x6=>
    some [V.int .i64 (IntKind.wrap .i64 (n+(IntKind.wrap .i64 x6.toInt)))])
theorem afb {x:Nat} (h:x<2^64): ∃L:Nat,CC ES [.int .u64 (x:Int)]=some [.int .i64 (L:Int)]∧L≤64∧(0<x→1≤L∧2^(L-1)≤x):=by
 have last: ∀y n:Nat,y<65536→n≤48→∃t:Nat,
   xU (y:Int) (n:Int)=some [V.int .i64 ((n+t:Nat):Int)]∧t≤16∧(0<y→1≤t∧2^(t-1)≤y):=by
  intro y n hy hn
  unfold xU
  rw[show ([0,1,2,2,3,3,3,3,4,4,4,4,4,4,4,4,5,5,5,5,5,5,5,5,5,5,5,5,5,5,5,5,6,6,6,6,6,6,6,6,6,6,6,6,6,6,6,6,6,6,6,6,6,6,6,6,6,6,6,6,6,6,6,6,7,7,7,7,7,7,7,7,7,7,7,7,7,7,7,7,7,7,7,7,7,7,7,7,7,7,7,7,7,7,7,7,7,7,7,7,7,7,7,7,7,7,7,7,7,7,7,7,7,7,7,7,7,7,7,7,7,7,7,7,7,7,7,7,8,8,8,8,8,8,8,8,8,8,8,8,8,8,8,8,8,8,8,8,8,8,8,8,8,8,8,8,8,8,8,8,8,8,8,8,8,8,8,8,8,8,8,8,8,8,8,8,8,8,8,8,8,8,8,8,8,8,8,8,8,8,8,8,8,8,8,8,8,8,8,8,8,8,8,8,8,8,8,8,8,8,8,8,8,8,8,8,8,8,8,8,8,8,8,8,8,8,8,8,8,8,8,8,8,8,8,8,8,8,8,8,8,8,8,8,8,8,8,8,8,8,8,8,8,8,8,8]:List UInt8)=FO from rfl]
  by_cases h1:y≥256
  ·have e:Int.fdiv (y:Int) (2^(min (8:Int).toNat (IntKind.bits .u64)))=((y/2^8:Nat):Int):=KC (m:=8) (by omega)
   obtain ⟨b,hb,b1,b2⟩:=Ts (y:=y/2^8) (by omega)
   refine ⟨b.toNat+8,?_,by omega,fun _=> ?_⟩
   ·rw[e,az,aj (by omega),Ac (by omega) (by omega),az,aj (by omega),Int.toNat_natCast,hb]
    simp only[Option.map_some,Option.bind_some,V.toInt_int]
    simp (disch:=omega) only[wrap64]
    congr 3
    omega
   ·obtain ⟨b3,b4⟩:=b2 (by omega)
    exact ⟨by omega,Ls b4 b3⟩
  ·obtain ⟨b,hb,b1,b2⟩:=Ts (y:=y) (by omega)
   refine ⟨b.toNat,?_,by omega,b2⟩
   rw[az,ai (by omega),Ac (by omega) (by omega),az,aj (by omega),Int.toNat_natCast,hb]
   simp (disch:=omega) only[Option.map_some,Option.bind_some,V.toInt_int,wrap64]
   congr 3
 have mid: ∀y n:Nat,y<4294967296→n≤32→∃t:Nat,∀F:Int→Int→Option (List V),
   (∀y n:Nat,y<65536→n≤48→∃t:Nat,F (y:Int) (n:Int)=some [V.int .i64 ((n+t:Nat):Int)]∧t≤16∧(0<y→1≤t∧2^(t-1)≤y))→
   ∃t:Nat,uV CC (y:Int) (n:Int) (decide (((y:Int):Int)≥65536)) (un F)=some [V.int .i64 ((n+t:Nat):Int)]∧t≤32∧(0<y→1≤t∧2^(t-1)≤y):=by
  intro y n hy hn
  refine ⟨0,fun F hF=> ?_⟩
  unfold uV
  by_cases h1:y≥65536
  ·have e:Int.fdiv (y:Int) (2^(min (16:Int).toNat (IntKind.bits .u64)))=((y/2^16:Nat):Int):=KC (m:=16) (by omega)
   rw[az,aj (by omega),e,wrap64 (by omega) (by omega)]
   obtain ⟨t,U,h3,h4⟩:=hF (y/2^16) (n+16) (by omega) (by omega)
   refine ⟨t+16,?_,by omega,fun _=> ?_⟩
   ·rw[show ((n:Int)+16)=((n+16:Nat):Int) by omega]
    simp only[un]
    rw[U]
    congr 3
    omega
   ·obtain ⟨b3,b4⟩:=h4 (by omega)
    exact ⟨by omega,Ls b4 b3⟩
  ·rw[az,ai (by omega)]
   obtain ⟨t,U,h3,h4⟩:=hF y n (by omega) (by omega)
   exact ⟨t,U,by omega,h4⟩
 by_cases h1:x≥4294967296
 ·have e:Int.fdiv (x:Int) (2^(min (32:Int).toNat (IntKind.bits .u64)))=((x/2^32:Nat):Int):=KC (m:=32) (by omega)
  obtain ⟨_,hm⟩:=mid (x/2^32) 32 (by omega) (by omega)
  obtain ⟨t,U,h3,h4⟩:=hm xU last
  refine ⟨32+t,Tk ?_,by omega,fun _=> ?_⟩
  ·show uU CC (x:Int) 0 (decide (((x:Int):Int)≥4294967296)) (un fun (im:Int) (Br:Int)=>uV CC im Br (decide ((im:Int)≥65536)) (un xU))=_
   unfold uU
   rw[az,aj (by omega),e]
   exact U
  ·obtain ⟨b3,b4⟩:=h4 (by omega)
   rw[Nat.add_comm 32 t]
   exact ⟨by omega,Ls b4 b3⟩
 ·obtain ⟨_,hm⟩:=mid x 0 (by omega) (by omega)
  obtain ⟨t,U,h3,h4⟩:=hm xU last
  refine ⟨t,Tk ?_,by omega,h4⟩
  show uU CC (x:Int) 0 (decide (((x:Int):Int)≥4294967296)) (un fun (im:Int) (Br:Int)=>uV CC im Br (decide ((im:Int)≥65536)) (un xU))=_
  unfold uU
  rw[az,ai (by omega)]
  rw[gE] at U
  exact U
theorem Tt {x:Nat} (h:x<2^64): ∃L:Nat,CC Ar [.int .u64 (x:Int)]=some [.int .i64 (L:Int)]∧L≤64∧(0<x→1≤L∧2^(L-1)≤x):=by
 obtain ⟨L,h1,U⟩:=afb h
 refine ⟨L,aeW ?_,U⟩
 unfold Tg
 rw[h1]
 rfl
theorem afc {x:Nat} (h0:0<x) (h:x<1152921504606846976): ∃M:Nat,CC ET [.int .i64 (x:Int)]=some [.int .u64 (M:Int)]∧1≤M∧M≤2*x:=by
 obtain ⟨L,h1,U,h3⟩:=Tt (x:=x) (by omega)
 obtain ⟨h4,h5⟩:=h3 h0
 have e:2^L=2*2^(L-1):=by
  obtain ⟨k,rfl⟩: ∃k,L=k+1:=⟨L-1,by omega⟩
  rw[Nat.pow_succ];simp only[vg];omega
 have hL:L<64:=by
  by_cases hx:L<64
  ·exact hx
  ·have:2^63≤2^(L-1):=Nat.pow_le_pow_right (by omega) (by omega)
   omega
 refine ⟨2^L,aeV ?_,Nat.pos_of_ne_zero (by simp),by omega⟩
 unfold Tf
 rw[AH (A:=x) (by omega),h1]
 simp only[Option.bind_some,V.aW,V.toInt_int]
 rw[az,aj (by omega),Int.toNat_natCast,aaq hL]
theorem afd (r:Int): ∃R:Nat,CC EU [.int .u64 r]=some [.int .u64 (R:Int),.int .u64 (R:Int)]∧R<2^64:=by
 have h: ∀n:Int,∃R:Nat,IntKind.wrap .u64 n=(R:Int)∧R<2^64:=fun n=>⟨(IntKind.wrap .u64 n).toNat,by rw[wrap_u64];omega,by rw[wrap_u64];omega⟩
 obtain ⟨R,h1,U⟩:=h _
 exact ⟨R,aeU (by unfold Te;rw[h1]),U⟩
theorem FP {d:Array XE} {i:Nat} (h:i<d.size):idx (eA d) (i:Int)=some (d[i]!).enc:=by rw[I0,fL h]
theorem Lt {d:Array XE} {a b:Nat} {s:Int} (ha:a<d.size) (hb:b<d.size): ∃(x y:Nat) (s':Int),CC wX [.list aa (eA d),.int .i64 (a:Int),.int .i64 (b:Int),.int .i64 s]=some [.int .i64 (x:Int),.int .i64 (y:Int),.int .i64 s']∧(x=a∧y=b∨x=b∧y=a):=by
 by_cases h:bX d[b]! d[a]! <0
 ·refine ⟨b,a,_,S9 (by unfold Lq;rw[FP hb,FP ha];simp only[Option.bind_some,XE.bd,XE.bj,XE.bh,gB,V.aW,V.toInt_int];rw[az,aj h]),.inr ⟨rfl,rfl⟩⟩
 ·refine ⟨a,b,_,S9 (by unfold Lq;rw[FP hb,FP ha];simp only[Option.bind_some,XE.bd,XE.bj,XE.bh,gB,V.aW,V.toInt_int];rw[az,ai h]),.inl ⟨rfl,rfl⟩⟩
theorem Lu {d:Array XE} {a b c:Nat} {s:Int} (ha:a<d.size) (hb:b<d.size) (hc:c<d.size): ∃(m:Nat) (s':Int),CC Ax [.list aa (eA d),.int .i64 (a:Int),.int .i64 (b:Int),.int .i64 (c:Int),.int .i64 s]=some [.int .i64 (m:Int),.int .i64 s']∧(m=a∨m=b∨m=c):=by
 obtain ⟨x1,y1,s1,e1,o1⟩:=Lt (s:=s) ha hb
 obtain ⟨x2,y2,s2,e2,o2⟩:=Lt (d:=d) (a:=y1) (b:=c) (s:=s1) (by omega) hc
 obtain ⟨x3,y3,s3,e3,o3⟩:=Lt (d:=d) (a:=x1) (b:=x2) (s:=s2) (by omega) (by omega)
 refine ⟨y3,s3,aeP ?_,by omega⟩
 unfold S8
 rw[e1]
 simp only[Option.bind_some,V.aW,V.qJ,V.toInt_int,kE,iX]
 rw[e2]
 simp only[Option.bind_some,V.aW,V.qJ,V.toInt_int,kE,iX]
 rw[e3]
 rfl
theorem Lv {d:Array XE} {a:Nat} {s:Int} (h1:1≤a) (ha:a+1<d.size) (hs:d.size<1152921504606846976): ∃(m:Nat) (s':Int),CC wW [.list aa (eA d),.int .i64 (a:Int),.int .i64 s]=some [.int .i64 (m:Int),.int .i64 s']∧a≤m+1∧m≤a+1:=by
 obtain ⟨m,s',e,o⟩:=Lu (d:=d) (a:=a-1) (b:=a) (c:=a+1) (s:=s) (by omega) (by omega) (by omega)
 refine ⟨m,s',aeQ ?_,by omega,by omega⟩
 unfold Ta
 simp (disch:=omega) only[kp,dL,wrap64]
 rw[e]
 rfl
theorem Lw (n:Nat):Int.tdiv (n:Int) 4=((n/4:Nat):Int):=by
 have:=divC n 4
 exact this
theorem mulC (k n:Nat):((k:Nat):Int)*(n:Int)=((k*n:Nat):Int):=(Int.natCast_mul k n).symm
theorem afe {d:Array XE} {a b:Nat} (e7:a+12<b) (hb:b≤d.size) (hs:d.size<1152921504606846976): ∃(p:Nat) (h:Int),CC Av [.list aa (eA d),.int .i64 (a:Int),.int .i64 (b:Int)]=some [.int .i64 (p:Int),.int .i64 h]∧a≤p∧p<b:=by
 have fin: ∀(p:Nat) (s:Int),∃h:Int,(bif (s:Int)==0 then some [V.int .i64 (p:Int),V.int .i64 1] else bif (s:Int)==12 then some [V.int .i64 (p:Int),V.int .i64 2] else some [V.int .i64 (p:Int),V.int .i64 0])=some [V.int .i64 (p:Int),V.int .i64 h]:=by
  intro p s
  rw[df]
  split
  ·exact ⟨1,rfl⟩
  ·rw[df]
   split
   ·exact ⟨2,rfl⟩
   ·exact ⟨0,rfl⟩
 have e1:IntKind.wrap .i64 ((b:Int)-(a:Int))=((b-a:Nat):Int):=by rw[mC (by omega),wrap64 (by omega) (by omega)]
 have e2:IntKind.wrap .i64 (Int.tdiv ((b-a:Nat):Int) 4)=(((b-a)/4:Nat):Int):=by rw[Lw,wrap64 (by omega) (by omega)]
 have e3: ∀k:Nat,k≤3→IntKind.wrap .i64 ((a:Int)+IntKind.wrap .i64 ((k:Int)*(((b-a)/4:Nat):Int)))=((a+k*((b-a)/4):Nat):Int):=by
  intro k hk
  have mo:k*((b-a)/4)≤3*((b-a)/4):=dC _ hk
  simp (disch:=omega) only[mulC,wrap64,fM]
 have Lx:=e3 1 (by omega)
 have sF:=e3 2 (by omega)
 have Ly:=e3 3 (by omega)
 rw[show ((1:Nat):Int)=1 from rfl] at Lx
 rw[show ((2:Nat):Int)=2 from rfl] at sF
 rw[show ((3:Nat):Int)=3 from rfl] at Ly
 by_cases h50:b-a≥50
 ·obtain ⟨m1,s1,q1,r1⟩:=Lv (d:=d) (a:=a+1*((b-a)/4)) (s:=0) (by omega) (by omega) hs
  obtain ⟨m2,s2,q2,r2⟩:=Lv (d:=d) (a:=a+2*((b-a)/4)) (s:=s1) (by omega) (by omega) hs
  obtain ⟨m3,s3,q3,r3⟩:=Lv (d:=d) (a:=a+3*((b-a)/4)) (s:=s2) (by omega) (by omega) hs
  obtain ⟨m,s,q,r⟩:=Lu (d:=d) (a:=m1) (b:=m2) (c:=m3) (s:=s3) (by omega) (by omega) (by omega)
  obtain ⟨h,hf⟩:=fin m s
  refine ⟨m,h,S7 ?_,by omega,by omega⟩
  unfold Lo Bo Bn
  rw[e1,e2,Lx,sF,Ly,ny (by omega),cond_true,ny (by omega),cond_true,q1]
  simp only[Option.bind_some,V.aW,V.qJ,V.toInt_int,kE,iX]
  rw[q2]
  simp only[Option.bind_some,V.aW,V.qJ,V.toInt_int,kE,iX]
  rw[q3]
  simp only[Option.bind_some,V.aW,V.qJ,V.toInt_int,kE,iX,un]
  rw[q]
  exact hf
 ·obtain ⟨m,s,q,r⟩:=Lu (d:=d) (a:=a+1*((b-a)/4)) (b:=a+2*((b-a)/4)) (c:=a+3*((b-a)/4)) (s:=0) (by omega) (by omega) (by omega)
  obtain ⟨h,hf⟩:=fin m s
  refine ⟨m,h,S7 ?_,by omega,by omega⟩
  unfold Lo Bo Bn
  rw[e1,e2,Lx,sF,Ly,ny (by omega),cond_true,sx (by omega),cond_false]
  simp only[un]
  rw[q]
  exact hf
theorem aff {a b M:Nat} (hM1:1≤M) (hM:M≤2*(b-a)) (h8:8≤b-a) (hB:b<1152921504606846976): ∀(n i:Nat) (d:Array XE) (r:Int),a+2*((b-a)/4)+2-i=n→a≤i→b≤d.size→d.size<1152921504606846976→
  ∃x y z R,Loop (FL CC a (b-a:Nat) M) ((i:Int),eA d,r)=some (x,y,eA R,z)∧PermIn a b d R:=by
 have e2:IntKind.wrap .i64 (Int.tdiv ((b-a:Nat):Int) 4)=(((b-a)/4:Nat):Int):=by rw[Lw,wrap64 (by omega) (by omega)]
 have sF:IntKind.wrap .i64 ((a:Int)+IntKind.wrap .i64 (2*(((b-a)/4:Nat):Int)))=((a+2*((b-a)/4):Nat):Int):=by
  have:=mulC 2 ((b-a)/4)
  rw[show ((2:Nat):Int)=2 from rfl] at this
  rw[this]
  simp (disch:=omega) only[wrap64,fM]
 intro n
 induction n with
 | zero=>
  intro i d r hn hi hb hs
  refine ⟨(i:Int),false,r,d,aV ?_,permIn_refl _ _ _⟩
  simp only[FL,Bq,un]
  rw[e2,sF,dL,wrap64 (by omega) (by omega),sx (by omega),cond_false]
 | succ n ih=>
  intro i d r hn hi hb hs
  obtain ⟨R1,q1,q2⟩:=afd r
  obtain ⟨o,ho,lu⟩: ∃o:Nat,(o=if R1&&&(M-1)≥b-a then (R1&&&(M-1))-(b-a) else R1&&&(M-1))∧o<b-a:=by
   refine ⟨_,rfl,?_⟩
   have:R1&&&(M-1)≤M-1:=Nat.and_le_right
   split<;>omega
  have hand:R1&&&(M-1)≤M-1:=Nat.and_le_right
  have hP:=swp_permIn (α:=XE) d a b i (a+o) hi (by omega) (by omega) (by omega) hb
  obtain ⟨x,y,z,R,e,hR⟩:=ih (i+1) (swp d i (a+o)) (R1:Int) (by omega) (by omega) (by rw[size_swp];exact hb) (by rw[size_swp];exact hs)
  refine ⟨x,y,z,R,(bQ ?_).trans e,permIn_trans _ _ _ a b hP hR⟩
  simp only[FL,Bq,un]
  rw[e2,sF,dL,wrap64 (x:=((a+2*((b-a)/4)+1:Nat):Int)) (by omega) (by omega),ny (by omega),cond_true,q1]
  simp only[Option.bind_some,V.aW,V.qJ,V.toInt_int,kE,iX]
  have e5:IntKind.wrap .u64 ((M:Int)-1)=((M-1:Nat):Int):=by rw[kp hM1,AH (by omega)]
  rw[e5,u64_and q2 (by omega),wrap64 (x:=((R1&&&(M-1):Nat):Int)) (by omega) (by omega)]
  have fin: ∀k:Int,k=(o:Int)→(bif (decide (0≤(IntKind.wrap .i64 ((a:Int)+k))))&&(decide ((IntKind.wrap .i64 ((a:Int)+k))<((eA d).length:Int))) then
   ((eA d)[(IntKind.wrap .i64 ((a:Int)+k):Int).toNat]?).bind fun x4=>
   bif (decide (0≤(i:Int)))&&(decide ((i:Int)<((eA d).length:Int))) then
    ((eA d)[((i:Int):Int).toNat]?).bind fun x5=>
    bif (decide (0≤(i:Int)))&&(decide ((i:Int)<((eA d).length:Int))) then
    ((eA d)[((i:Int):Int).toNat]?).bind fun x6=>
    bif (decide (0≤(IntKind.wrap .i64 ((a:Int)+k))))&&(decide ((IntKind.wrap .i64 ((a:Int)+k))<(((eA d).set (((i:Int):Int).toNat) (.agg [.int .i64 ((x4.cell 0).toInt),.int .i64 ((x4.cell 1).toInt),.list aa ((x4.cell 2).toList)])).length:Int))) then
     (((eA d).set (((i:Int):Int).toNat) (.agg [.int .i64 ((x4.cell 0).toInt),.int .i64 ((x4.cell 1).toInt),.list aa ((x4.cell 2).toList)]))[(IntKind.wrap .i64 ((a:Int)+k):Int).toNat]?).bind fun x7=>
     some (.inl (IntKind.wrap .i64 ((i:Int)+1),((eA d).set (((i:Int):Int).toNat) (.agg [.int .i64 ((x4.cell 0).toInt),.int .i64 ((x4.cell 1).toInt),.list aa ((x4.cell 2).toList)])).set ((IntKind.wrap .i64 ((a:Int)+k):Int).toNat) (.agg [.int .i64 ((x5.cell 0).toInt),.int .i64 ((x5.cell 1).toInt),.list aa ((x5.cell 2).toList)]),(R1:Int)))
    else none
    else none
   else none
   else none:Option ((Int × List V × Int) ⊕ (Int × Bool × List V × Int)))=some (.inl (((i+1:Nat):Int),eA (swp d i (a+o)),(R1:Int))):=by
   intro k hk
   subst hk
   simp (disch:=omega) only[az,cS,gp,aj,ai,wrap64,dL,fM,Int.toNat_natCast,Option.bind_some,fJ,fL,XE.bd,XE.bj,XE.bh,XE.re,fK,il,gG,gB,V.aW,V.toInt_int,cond_true,cond_false]
   rfl
  unfold FK
  by_cases h:R1&&&(M-1)≥b-a
  ·rw[aj h] at ho
   rw[ny (by omega),cond_true]
   exact fin _ (by rw[mC (by omega),wrap64 (by omega) (by omega)];omega)
  ·rw[ai h] at ho
   rw[sx (by omega),cond_false]
   exact fin _ (by omega)
theorem afg {a b:Nat} {d:Array XE} (e7:a+12<b) (hb:b≤d.size) (hs:d.size<1152921504606846976): ∃R,CC EO [.int .i64 (a:Int),.int .i64 (b:Int),.list aa (eA d)]=some [.list aa (eA R)]∧PermIn a b d R:=by
 obtain ⟨M,q1,q2,q3⟩:=afc (x:=b-a) (by omega) (by omega)
 have e1:IntKind.wrap .i64 ((b:Int)-(a:Int))=((b-a:Nat):Int):=by rw[mC (by omega),wrap64 (by omega) (by omega)]
 have e2:IntKind.wrap .i64 (Int.tdiv ((b-a:Nat):Int) 4)=(((b-a)/4:Nat):Int):=by rw[Lw,wrap64 (by omega) (by omega)]
 have sF:IntKind.wrap .i64 ((a:Int)+IntKind.wrap .i64 (2*(((b-a)/4:Nat):Int)))=((a+2*((b-a)/4):Nat):Int):=by
  have:=mulC 2 ((b-a)/4)
  rw[show ((2:Nat):Int)=2 from rfl] at this
  rw[this]
  simp (disch:=omega) only[wrap64,fM]
 obtain ⟨x,y,z,R,e,hR⟩:=aff (a:=a) (b:=b) (M:=M) q2 q3 (by omega) (by omega) _ (a+2*((b-a)/4)-1) d (IntKind.wrap .u64 ((b-a:Nat):Int)) rfl (by omega) hb hs
 refine ⟨R,aeT ?_,hR⟩
 unfold Td
 rw[e1,az,aj (by omega),q1]
 simp only[Option.bind_some,V.aW,V.toInt_int]
 rw[e2,sF,kp (by omega),wrap64 (x:=((a+2*((b-a)/4)-1:Nat):Int)) (by omega) (by omega),e]
 rfl
noncomputable def sG (C:ag) (a b':Int) (eG eY:Bool) (cG dN:Int) (mD:List V) {β:Type} (kn:(Int × Int × Int × Bool × Bool × (List V))→Option β):Option β:=
      bif decide ((a:Int)>0) then
       bif (decide (0≤(IntKind.wrap .i64 (a-1))))&&(decide ((IntKind.wrap .i64 (a-1))<(mD.length:Int))) then
       (mD[(IntKind.wrap .i64 (a-1):Int).toNat]?).bind fun jI=>
       bif (decide (0≤dN))&&(decide (dN<(mD.length:Int))) then
        (mD[(dN:Int).toNat]?).bind fun nC=>
        (C bp [.int .i64 ((jI.cell 0).toInt),.int .i64 ((jI.cell 1).toInt),.list aa ((jI.cell 2).toList),.int .i64 ((nC.cell 0).toInt),.int .i64 ((nC.cell 1).toInt),.list aa ((nC.cell 2).toList)]).bind fun jJ=>
        bif !(decide ((((V.nth jJ 0).toInt):Int)<0)) then
        (C ur [.int .i64 a,.int .i64 b',.int .i64 dN,.list aa mD]).bind fun kX=>
        kn ((V.nth kX 0).toInt,b',cG,eG,eY,(V.nth (kX.drop 1) 0).toList)
        else
        (C np [.int .i64 a,.int .i64 b',.int .i64 dN,.list aa mD]).bind fun dt=>
        bif decide (((IntKind.wrap .i64 (((V.nth dt 0).toInt)-a)):Int)<(IntKind.wrap .i64 (b'-((V.nth dt 0).toInt)))) then
         (C gq [.int .i64 a,.int .i64 ((V.nth dt 0).toInt),.int .i64 cG,.list aa ((V.nth (dt.drop 2) 0).toList)]).bind fun iU=>
         kn (IntKind.wrap .i64 (((V.nth dt 0).toInt)+1),b',cG,decide (((IntKind.wrap .i64 (((V.nth dt 0).toInt)-a)):Int)≥(IntKind.wrap .i64 (Int.tdiv (IntKind.wrap .i64 (b'-a)) 8))),(V.nth (dt.drop 1) 0).toBool,(V.nth iU 0).toList)
        else
         (C gq [.int .i64 (IntKind.wrap .i64 (((V.nth dt 0).toInt)+1)),.int .i64 b',.int .i64 cG,.list aa ((V.nth (dt.drop 2) 0).toList)]).bind fun c9=>
         kn (a,(V.nth dt 0).toInt,cG,decide (((IntKind.wrap .i64 (b'-((V.nth dt 0).toInt))):Int)≥(IntKind.wrap .i64 (Int.tdiv (IntKind.wrap .i64 (b'-a)) 8))),(V.nth (dt.drop 1) 0).toBool,(V.nth c9 0).toList)
       else none
       else none
      else
       (C np [.int .i64 a,.int .i64 b',.int .i64 dN,.list aa mD]).bind fun fx=>
       bif decide (((IntKind.wrap .i64 (((V.nth fx 0).toInt)-a)):Int)<(IntKind.wrap .i64 (b'-((V.nth fx 0).toInt)))) then
       (C gq [.int .i64 a,.int .i64 ((V.nth fx 0).toInt),.int .i64 cG,.list aa ((V.nth (fx.drop 2) 0).toList)]).bind fun mG=>
       kn (IntKind.wrap .i64 (((V.nth fx 0).toInt)+1),b',cG,decide (((IntKind.wrap .i64 (((V.nth fx 0).toInt)-a)):Int)≥(IntKind.wrap .i64 (Int.tdiv (IntKind.wrap .i64 (b'-a)) 8))),(V.nth (fx.drop 1) 0).toBool,(V.nth mG 0).toList)
       else
       (C gq [.int .i64 (IntKind.wrap .i64 (((V.nth fx 0).toInt)+1)),.int .i64 b',.int .i64 cG,.list aa ((V.nth (fx.drop 2) 0).toList)]).bind fun gC=>
       kn (a,(V.nth fx 0).toInt,cG,decide (((IntKind.wrap .i64 (b'-((V.nth fx 0).toInt))):Int)≥(IntKind.wrap .i64 (Int.tdiv (IntKind.wrap .i64 (b'-a)) 8))),(V.nth (fx.drop 1) 0).toBool,(V.nth gC 0).toList)
theorem FQ (C:ag) (a b' jm:Int) (eG eY:Bool) (ak:List V) {β:Type} (kn:(Int × Int × Int × Bool × Bool × (List V))→Option β) (kr:(List V)→Option β):
  pM C a b' jm eG eY ak kn kr=
 bif decide (((IntKind.wrap .i64 (b'-a)):Int)≤12) then
  (C As [.int .i64 a,.int .i64 b',.list aa ak]).bind fun r1=>
  kr ((V.nth r1 0).toList)
 else
  bif (jm:Int)==0 then
  (C Au [.int .i64 a,.int .i64 b',.list aa ak]).bind fun r2=>
  kr ((V.nth r2 0).toList)
  else
  xR C a b' jm eG eY (IntKind.wrap .i64 (b'-a)) (!eG) ak (un fun (cG:Int) (Bt:List V)=>
   (C Av [.list aa Bt,.int .i64 a,.int .i64 b']).bind fun r6=>
   xS C a b' cG eG eY (IntKind.wrap .i64 (b'-a)) ((V.nth r6 0).toInt) ((V.nth (r6.drop 1) 0).toInt) ((((V.nth (r6.drop 1) 0).toInt):Int)==2) Bt (un fun (dN:Int)=>un fun (Lr:Int) (oJ:List V)=>
    bif eG then
     bif eY then
     mF C a b' cG eG eY (IntKind.wrap .i64 (b'-a)) dN ((Lr:Int)==1) oJ (b7 (un fun (KG:Bool) (LA:List V)=>
      kr LA) (fun (mD:List V)=>sG C a b' eG eY cG dN mD kn))
     else
     mF C a b' cG eG eY (IntKind.wrap .i64 (b'-a)) dN false oJ (b7 (un fun (Q3:Bool) (afh:List V)=>
      kr afh) (fun (afi:List V)=>sG C a b' eG eY cG dN afi kn))
    else
     mF C a b' cG eG eY (IntKind.wrap .i64 (b'-a)) dN false oJ (b7 (un fun (aaI:Bool) (afj:List V)=>
      kr afj) (fun (afk:List V)=>sG C a b' eG eY cG dN afk kn)))):=rfl
section
variable {a b:Nat} {lim:Int} {wb wp:Bool}
theorem afl {d:Array XE} (e7:a+12<b) (hb:b≤d.size) (hs:d.size<1152921504606846976) (len:Int) (t:Bool): ∃(l1:Int) (d1:Array XE),PermIn a b d d1∧∀(β:Type) (kr:(Int × List V)→Option β),xR CC a b lim wb wp len t (eA d) kr=kr (l1,eA d1):=by
 cases t with
 | true=>
  obtain ⟨R,e,hR⟩:=afg e7 hb hs
  refine ⟨IntKind.wrap .i64 (lim-1),R,hR,fun β kr=> ?_⟩
  unfold xR
  rw[cond_true,e]
  rfl
 | false=>exact ⟨lim,d,permIn_refl _ _ _,fun β kr=>rfl⟩
theorem afm {d:Array XE} (e7:a+12<b) (hb:b≤d.size) (hs:d.size<1152921504606846976) (len h:Int) (t:Bool) {p:Nat} (h1:a≤p) (U:p<b): ∃(p2:Nat) (U:Int) (d1:Array XE),a≤p2∧p2<b∧PermIn a b d d1∧∀(β:Type) (kr:(Int × Int × List V)→Option β),xS CC a b lim wb wp len p h t (eA d) kr=kr ((p2:Int),U,eA d1):=by
 cases t with
 | true=>
  refine ⟨b-1-(p-a),1,reverseRange d a b,by omega,by omega,reverseRange_holds d a b (by omega) hb,fun β kr=> ?_⟩
  unfold xS
  rw[cond_true,aed (by omega) hb hs]
  simp (disch:=omega) only[Option.bind_some,V.aW,V.kb,kp,mC,wrap64]
 | false=>exact ⟨p,h,d,h1,U,permIn_refl _ _ _,fun β kr=>rfl⟩
theorem afn {d:Array XE} (e7:a+12<b) (hb:b≤d.size) (hs:d.size<1152921504606846976) (hB:Below aA a b d) (len p:Int) (t:Bool): ∃d1:Array XE,PermIn a b d d1∧
  ((∀(β:Type) (kr:((Bool × List V) ⊕ List V)→Option β),mF CC a b lim wb wp len p t (eA d) kr=kr (.inr (eA d1)))∨
  (SortedIn aA a b d1∧∀(β:Type) (kr:((Bool × List V) ⊕ List V)→Option β),mF CC a b lim wb wp len p t (eA d) kr=kr (.inl (true,eA d1)))):=by
 cases t with
 | true=>
  have hp:=partialInsertionSort_holds (lt:=aA) xT d a b (by omega) hb hB
  refine ⟨_,hp.1,?_⟩
  cases h:(partialInsertionSort aA d a b).2 with
  | true=>
   refine .inr ⟨hp.2 h,fun β kr=> ?_⟩
   unfold mF
   rw[cond_true,S3 (by omega) hb hs,h]
   rfl
  | false=>
   refine .inl fun β kr=> ?_
   unfold mF
   rw[cond_true,S3 (by omega) hb hs,h]
   rfl
 | false=>exact ⟨d,permIn_refl _ _ _,.inl fun β kr=>rfl⟩
end
def FR (a b:Nat) (d:Array XE):Prop:= ∀(lim:Int) (wb wp:Bool),∃R,Loop (Tn CC) ((a:Int),(b:Int),lim,wb,wp,eA d)=some (eA R)∧PermIn a b d R∧SortedIn aA a b R
theorem FR.call {a b:Nat} {d:Array XE} (h:FR a b d) (lim:Int): ∃R,CC gq [.int .i64 (a:Int),.int .i64 (b:Int),.int .i64 lim,.list aa (eA d)]=some [.list aa (eA R)]∧PermIn a b d R∧SortedIn aA a b R:=by
 obtain ⟨R,e,h1,U⟩:=h lim true true
 refine ⟨R,ae7 ?_,h1,U⟩
 unfold Tp
 rw[e]
 rfl
theorem afo {a b p:Nat} {d:Array XE} (e7:a+12<b) (hb:b≤d.size) (hs:d.size<1152921504606846976) (hB:Below aA a b d) (h1:a≤p) (U:p<b)
  (ih: ∀(a2 b2:Nat) (d2:Array XE),b2-a2<b-a→a2≤b2→b2≤d2.size→d2.size<1152921504606846976→Below aA a2 b2 d2→FR a2 b2 d2) (wb wp:Bool) (lim:Int):
  ∃(a2 b2:Nat) (uX uY:Bool) (d2:Array XE),b2-a2<b-a∧a2≤b2∧b2≤d2.size∧d2.size<1152921504606846976∧Below aA a2 b2 d2∧
   (∀R,PermIn a2 b2 d2 R→SortedIn aA a2 b2 R→PermIn a b d R∧SortedIn aA a b R)∧
   ∀(β:Type) (kn:(Int × Int × Int × Bool × Bool × (List V))→Option β),sG CC a b wb wp lim p (eA d) kn=kn ((a2:Int),(b2:Int),lim,uX,uY,eA d2):=by
 have part: ∃(a2 b2:Nat) (uX uY:Bool) (d2:Array XE),b2-a2<b-a∧a2≤b2∧b2≤d2.size∧d2.size<1152921504606846976∧Below aA a2 b2 d2∧
   (∀R,PermIn a2 b2 d2 R→SortedIn aA a2 b2 R→PermIn a b d R∧SortedIn aA a b R)∧
   ∀(β:Type) (kn:(Int × Int × Int × Bool × Bool × (List V))→Option β),
    ((CC np [.int .i64 (a:Int),.int .i64 (b:Int),.int .i64 (p:Int),.list aa (eA d)]).bind fun dt=>
        bif decide (((IntKind.wrap .i64 (((V.nth dt 0).toInt)-(a:Int))):Int)<(IntKind.wrap .i64 ((b:Int)-((V.nth dt 0).toInt)))) then
         (CC gq [.int .i64 (a:Int),.int .i64 ((V.nth dt 0).toInt),.int .i64 lim,.list aa ((V.nth (dt.drop 2) 0).toList)]).bind fun iU=>
         kn (IntKind.wrap .i64 (((V.nth dt 0).toInt)+1),(b:Int),lim,decide (((IntKind.wrap .i64 (((V.nth dt 0).toInt)-(a:Int))):Int)≥(IntKind.wrap .i64 (Int.tdiv (IntKind.wrap .i64 ((b:Int)-(a:Int))) 8))),(V.nth (dt.drop 1) 0).toBool,(V.nth iU 0).toList)
        else
         (CC gq [.int .i64 (IntKind.wrap .i64 (((V.nth dt 0).toInt)+1)),.int .i64 (b:Int),.int .i64 lim,.list aa ((V.nth (dt.drop 2) 0).toList)]).bind fun c9=>
         kn ((a:Int),(V.nth dt 0).toInt,lim,decide (((IntKind.wrap .i64 ((b:Int)-((V.nth dt 0).toInt))):Int)≥(IntKind.wrap .i64 (Int.tdiv (IntKind.wrap .i64 ((b:Int)-(a:Int))) 8))),(V.nth (dt.drop 1) 0).toBool,(V.nth c9 0).toList))=kn ((a2:Int),(b2:Int),lim,uX,uY,eA d2):=by
  obtain ⟨mid,ap,d4,hx⟩: ∃mid ap d4,partition aA d a b p=(mid,ap,d4):=⟨_,_,_,rfl⟩
  obtain ⟨g1,g2,oN,hBa,hBr,afp,afq⟩:=round_part xT (partition_holds aA) h1 U hb hB hx
  have hc:=aeE (a:=a) (b:=b) (pivot:=p) (d:=d) U (by omega) hb hs
  rw[hx] at hc
  by_cases hl:mid-a<b-mid
  ·obtain ⟨L,e,l1,l2⟩:=(ih a mid d4 (by omega) g1 (by rw[oN];omega) (by rw[oN];exact hs) hBa).call lim
   obtain ⟨LB,Bu⟩:=afp _ l1 l2
   refine ⟨mid+1,b,decide (((IntKind.wrap .i64 ((mid:Int)-(a:Int))):Int)≥(IntKind.wrap .i64 (Int.tdiv (IntKind.wrap .i64 ((b:Int)-(a:Int))) 8))),ap,L,by omega,by omega,by rw[l1.1,oN];exact hb,by rw[l1.1,oN];exact hs,LB,Bu,fun β kn=> ?_⟩
   ·rw[hc]
    simp only[Option.bind_some,V.aW,V.qJ,V.toInt_int,V.ej,V.kb,kE,iX]
    rw[az,aj (by rw[mC g1,mC (by omega),wrap64 (by omega) (by omega),wrap64 (by omega) (by omega)];omega),e]
    simp only[Option.bind_some,V.aW,V.kb]
    rw[dL,wrap64 (x:=((mid+1:Nat):Int)) (by omega) (by omega)]
  ·obtain ⟨L,e,l1,l2⟩:=(ih (mid+1) b d4 (by omega) (by omega) (by rw[oN];exact hb) (by rw[oN];exact hs) hBr).call lim
   obtain ⟨LB,Bu⟩:=afq _ l1 l2
   refine ⟨a,mid,decide (((IntKind.wrap .i64 ((b:Int)-(mid:Int))):Int)≥(IntKind.wrap .i64 (Int.tdiv (IntKind.wrap .i64 ((b:Int)-(a:Int))) 8))),ap,L,by omega,by omega,by rw[l1.1,oN];omega,by rw[l1.1,oN];exact hs,LB,Bu,fun β kn=> ?_⟩
   ·rw[hc]
    simp only[Option.bind_some,V.aW,V.qJ,V.toInt_int,V.ej,V.kb,kE,iX]
    rw[az,ai (by rw[mC g1,mC (by omega),wrap64 (by omega) (by omega),wrap64 (by omega) (by omega)];omega),dL,wrap64 (x:=((mid+1:Nat):Int)) (by omega) (by omega),e]
    simp only[Option.bind_some,V.aW,V.kb]
 by_cases ha:0<a
 ·by_cases hc:bX d[a-1]! d[p]! <0
  ·obtain ⟨a2,b2,uX,uY,d2,q1,q2,q3,q4,q5,q6,q7⟩:=part
   refine ⟨a2,b2,uX,uY,d2,q1,q2,q3,q4,q5,q6,fun β kn=> ?_⟩
   rw[←q7 β kn]
   unfold sG
   rw[az,aj (by omega),kp ha,wrap64 (by omega) (by omega),kq (i:=a-1) (by omega),ku (by omega),kq (i:=p) (by omega),ku (by omega)]
   simp only[XE.bd,XE.bj,XE.bh,gB,Option.bind_some,V.aW,V.toInt_int]
   rw[gp,az,aj hc]
  ·obtain ⟨mid,d4,hx⟩: ∃mid d4,partitionEqual aA d a b p=(mid,d4):=⟨_,_,rfl⟩
   obtain ⟨g1,Hl,oN,hB4,Bu⟩:=round_eq xT (partitionEqual_holds aA) ha h1 U hb hB (by rw[FN,←propext (ae9 _ _)];exact hc) hx
   have he:=aeG (a:=a) (b:=b) (pivot:=p) (d:=d) U (by omega) hb hs
   rw[hx] at he
   refine ⟨mid,b,wb,wp,d4,by omega,Hl,by rw[oN];exact hb,by rw[oN];exact hs,hB4,Bu,fun β kn=> ?_⟩
   unfold sG
   rw[az,aj (by omega),kp ha,wrap64 (by omega) (by omega),kq (i:=a-1) (by omega),ku (by omega),kq (i:=p) (by omega),ku (by omega)]
   simp only[XE.bd,XE.bj,XE.bh,gB,Option.bind_some,V.aW,V.toInt_int]
   rw[gp,az,ai hc,he]
   rfl
 ·obtain ⟨a2,b2,uX,uY,d2,q1,q2,q3,q4,q5,q6,q7⟩:=part
  refine ⟨a2,b2,uX,uY,d2,q1,q2,q3,q4,q5,q6,fun β kn=> ?_⟩
  rw[←q7 β kn]
  unfold sG
  rw[az,ai (by omega)]
theorem afr: ∀(n a b:Nat) (d:Array XE),b-a≤n→a≤b→b≤d.size→d.size<1152921504606846976→Below aA a b d→FR a b d:=by
 intro n
 induction n with
 | zero=>
  intro a b d hn e7 hb hs hB lim wb wp
  have hi:=insertionSort_holds (lt:=aA) xT d a b e7 hb
  refine ⟨_,aV ?_,hi⟩
  show pM CC a b lim wb wp (eA d) (fun y=>some (Sum.inl y)) (fun r=>some (Sum.inr r))=_
  rw[FQ,az,aj (by rw[mC e7,wrap64 (by omega) (by omega)];omega),SI hb hs (by omega)]
  rfl
 | succ n ih=>
  intro a b d hn e7 hb hs hB lim wb wp
  by_cases h12:b-a≤12
  ·have hi:=insertionSort_holds (lt:=aA) xT d a b e7 hb
   refine ⟨_,aV ?_,hi⟩
   show pM CC a b lim wb wp (eA d) (fun y=>some (Sum.inl y)) (fun r=>some (Sum.inr r))=_
   rw[FQ,az,aj (by rw[mC e7,wrap64 (by omega) (by omega)];omega),SI hb hs (by omega)]
   rfl
  ·have Bv:a+12<b:=by omega
   have rY: ¬(((IntKind.wrap .i64 ((b:Int)-(a:Int))):Int)≤12):=by rw[mC e7,wrap64 (by omega) (by omega)];omega
   by_cases h0:lim=0
   ·have hi:=heapSort_holds (lt:=aA) xT d a b e7 hb
    refine ⟨_,aV ?_,hi⟩
    show pM CC a b lim wb wp (eA d) (fun y=>some (Sum.inl y)) (fun r=>some (Sum.inr r))=_
    rw[FQ,az,ai rY,df,aj h0,aeb (by omega) hb hs]
    rfl
   ·obtain ⟨l1,d1,s1,k1⟩:=afl (lim:=lim) (wb:=wb) (wp:=wp) Bv hb hs (IntKind.wrap .i64 ((b:Int)-(a:Int))) (!wb)
    have b1:b≤d1.size:=by rw[s1.1];exact hb
    have z1:d1.size<1152921504606846976:=by rw[s1.1];exact hs
    obtain ⟨p,h,c1,p1,p2⟩:=afe Bv b1 z1
    obtain ⟨q,U,d2,q1,q2,s2,k2⟩:=afm (lim:=l1) (wb:=wb) (wp:=wp) Bv b1 z1 (IntKind.wrap .i64 ((b:Int)-(a:Int))) h (h==2) p1 p2
    have b2:b≤d2.size:=by rw[s2.1];exact b1
    have z2:d2.size<1152921504606846976:=by rw[s2.1];exact z1
    have B2:Below aA a b d2:=(hB.perm hb s1).perm b1 s2
    obtain ⟨t,ht⟩: ∃t:Bool,t=(bif wb then (bif wp then (U==1) else false) else false):=⟨_,rfl⟩
    obtain ⟨d3,s3,k3⟩:=afn (lim:=l1) (wb:=wb) (wp:=wp) Bv b2 z2 B2 (IntKind.wrap .i64 ((b:Int)-(a:Int))) (q:Int) t
    have b3:b≤d3.size:=by rw[s3.1];exact b2
    have z3:d3.size<1152921504606846976:=by rw[s3.1];exact z2
    have B3:Below aA a b d3:=B2.perm b2 s3
    have P3:PermIn a b d d3:=permIn_trans _ _ _ a b (permIn_trans _ _ _ a b s1 s2) s3
    have step: ∀(β:Type) (kn:(Int × Int × Int × Bool × Bool × (List V))→Option β) (kr:(List V)→Option β),pM CC a b lim wb wp (eA d) kn kr=
      mF CC a b l1 wb wp (IntKind.wrap .i64 ((b:Int)-(a:Int))) (q:Int) t (eA d2) (b7 (un fun (KG:Bool) (LA:List V)=>kr LA) (fun (mD:List V)=>sG CC a b wb wp l1 q mD kn)):=by
     intro β kn kr
     rw[FQ,az,ai rY,df,ai h0,k1]
     simp only[un]
     rw[c1]
     simp only[Option.bind_some,V.aW,V.qJ,V.toInt_int,kE,iX]
     rw[k2]
     simp only[un]
     rw[ht]
     cases wb
     ·rfl
     ·cases wp
      ·rfl
      ·rfl
    rcases k3 with k3|⟨k3s,k3⟩
    ·obtain ⟨a4,b4,wb4,wp4,d4,r1,r2,r3,r4,r5,r6,r7⟩:=afo Bv b3 z3 B3 q1 q2 (fun a2 b2 d2 aO h1 U h3 h4=>ih a2 b2 d2 (by omega) h1 U h3 h4) wb wp l1
     obtain ⟨R,e,e1,e2⟩:=ih a4 b4 d4 (by omega) r2 r3 r4 r5 l1 wb4 wp4
     obtain ⟨f1,f2⟩:=r6 R e1 e2
     refine ⟨R,(bQ ?_).trans e,permIn_trans _ _ _ a b P3 f1,f2⟩
     show pM CC a b lim wb wp (eA d) (fun y=>some (Sum.inl y)) (fun r=>some (Sum.inr r))=_
     rw[step,k3]
     exact r7 _ (fun y=>some (Sum.inl y))
    ·refine ⟨d3,aV ?_,P3,k3s⟩
     show pM CC a b lim wb wp (eA d) (fun y=>some (Sum.inl y)) (fun r=>some (Sum.inr r))=_
     rw[step,k3]
     rfl
theorem afs (l:List XE) (hs:l.length<1152921504606846976): ∃R:List XE,CC Aq [.list aa (l.map XE.enc)]=some [.list aa (R.map XE.enc)]∧R.Perm l∧R.Pairwise (fun x y=> ¬y.lt x):=by
 obtain ⟨L,e1,_⟩:=Tt (x:=l.length) (by omega)
 obtain ⟨R,e2,h1,U⟩:=(afr _ 0 l.toArray.size l.toArray (bY _) (kC _) (bY _) (by simpa using hs) (.inl rfl)).call (L:Int)
 have aX:R.size=l.length:=by rw[h1.1];simp
 refine ⟨R.toList,ae8 ?_,?_,?_⟩
 ·unfold Tq
  rw[aP,AH (A:=l.length) (by omega),e1]
  simp only[Option.bind_some,V.aW,V.toInt_int]
  have e3:eA l.toArray=l.map XE.enc:=by simp[pI]
  rw[e3,show ((l.toArray.size:Nat):Int)=(l.length:Int) by simp,show ((0:Nat):Int)=0 from rfl] at e2
  rw[e2]
  rfl
 ·have h3:=h1.2.2
  rw[show l.toArray.size=R.size from h1.1.symm,Array.extract_size,h1.1,Array.extract_size] at h3
  exact h3
 ·rw[Ct]
  intro i j hi hj tJ
  have h3:=U i j (kC _) tJ (by simpa[←aX] using hj)
  rw[FN] at h3
  have dU:i<R.size:=by simpa using hi
  have gl:j<R.size:=by simpa using hj
  rw[getElem!_pos R i dU,getElem!_pos R j gl] at h3
  simpa using h3
end Go.AM.SX
set_option maxRecDepth 100000
namespace Go.AM
open Go.Proofs
noncomputable abbrev FT:Code:=cC Try.prog (ay.aT 106)
noncomputable def xV (C:ag) (Bw uZ:Nat) (k' ky:Int) (ss:List V) {β:Type} (kn:(Int × Int × (List V))→Option β) (kr:(Int × Int × Bool × (List V))→Option β):Option β:=
 bif decide ((ky:Int)<(uZ:Int)) then
  bif (decide (0≤ky))&&(decide (ky<(uZ:Int))) then
  (ss[Bw+((ky:Int).toNat)]?).bind fun x4=>
  bif (decide (0≤(IntKind.wrap .i64 (ky-1))))&&(decide ((IntKind.wrap .i64 (ky-1))<(uZ:Int))) then
   (ss[Bw+((IntKind.wrap .i64 (ky-1):Int).toNat)]?).bind fun x5=>
   (C pD [.int .i64 ((x4.cell 0).toInt),.int .i64 ((x4.cell 1).toInt),.list aa ((x4.cell 2).toList),.int .i64 ((x5.cell 0).toInt),.int .i64 ((x5.cell 1).toInt),.list aa ((x5.cell 2).toList)]).bind fun r6=>
   bif !((V.nth r6 0).toBool) then
   bif (decide (0≤ky))&&(decide (ky<(uZ:Int))) then
    (ss[Bw+((ky:Int).toNat)]?).bind fun x7=>
    bif (decide (0≤k'))&&(decide (k'<(ss.length:Int))) then
    (ss[(k':Int).toNat]?).bind fun x8=>
    kn (IntKind.wrap .i64 (k'+1),IntKind.wrap .i64 (ky+1),ss.set ((k':Int).toNat) (.agg [.int .i64 ((x7.cell 0).toInt),.int .i64 ((x7.cell 1).toInt),.list aa ((x7.cell 2).toList)]))
    else none
   else none
   else
   kn (k',IntKind.wrap .i64 (ky+1),ss)
  else none
  else none
 else
  kr (k',ky,decide ((ky:Int)<(uZ:Int)),ss)
noncomputable def u0 (C:ag) (Bw uZ:Nat):(Int × Int × (List V))→Option ((Int × Int × (List V)) ⊕ (Int × Int × Bool × (List V))):=un fun k'=>un fun ky ss=>xV C Bw uZ k' ky ss (fun y=>some (.inl y)) (fun r=>some (.inr r))
noncomputable def xW (C:ag) (ss:List V) (k':Int) {β:Type} (kn:Int→Option β) (kr:((List V) ⊕ (Int × Bool))→Option β):Option β:=
 bif decide ((k':Int)<(ss.length:Int)) then
  bif (decide (0≤k'))&&(decide (k'<(ss.length:Int))) then
  (ss[(k':Int).toNat]?).bind fun x1=>
  bif (decide (0≤(IntKind.wrap .i64 (k'-1))))&&(decide ((IntKind.wrap .i64 (k'-1))<(ss.length:Int))) then
   (ss[(IntKind.wrap .i64 (k'-1):Int).toNat]?).bind fun x2=>
   (C pD [.int .i64 ((x1.cell 0).toInt),.int .i64 ((x1.cell 1).toInt),.list aa ((x1.cell 2).toList),.int .i64 ((x2.cell 0).toInt),.int .i64 ((x2.cell 1).toInt),.list aa ((x2.cell 2).toList)]).bind fun r3=>
   bif (V.nth r3 0).toBool then
   bif (decide (0≤k'))&&(decide (k'≤(ss.length:Int))) then
    (Loop (u0 C ((k':Int).toNat) (ss.length-((k':Int).toNat))) (k',1,ss)).bind (un fun (mH:Int)=>un fun (aj9:Int)=>un fun (xb:Bool) (qX:List V)=>
     bif (decide (0≤mH))&&(decide (mH≤(qX.length:Int))) then
     bif (decide (0≤mH))&&(decide (mH≤((qX.take ((mH:Int).toNat)++(List.replicate (qX.length-((mH:Int).toNat)) (V.agg [.int .i64 0,.int .i64 0,.list aa ([]:List V)])++qX.drop (((mH:Int).toNat)+(qX.length-((mH:Int).toNat))))).length:Int))) then
      kr (.inl ((qX.take ((mH:Int).toNat)++(List.replicate (qX.length-((mH:Int).toNat)) (V.agg [.int .i64 0,.int .i64 0,.list aa ([]:List V)])++qX.drop (((mH:Int).toNat)+(qX.length-((mH:Int).toNat))))).take ((mH:Int).toNat)))
     else none
     else none)
   else none
   else
   kn (IntKind.wrap .i64 (k'+1))
  else none
  else none
 else
  kr (.inr (k',decide ((k':Int)<(ss.length:Int))))
noncomputable def u3 (C:ag) (ss:List V):(Int)→Option ((Int) ⊕ ((List V) ⊕ (Int × Bool))):=fun k'=>xW C ss k' (fun y=>some (.inl y)) (fun r=>some (.inr r))
noncomputable def Tu (C:ag):cp:=fun β n ds k=>
 bif Nat.beq n 145 then bW J0 [true,false,false,true,true] [[0,2,3,0,0,0]] (@xV C) ds k else
 bif Nat.beq n 65 then bW J1 [true,false] [[0],[0,0,2]] (@xW C) ds k else
 none
abbrev Tv (C:ag) (b:cj):Prop:=cl Try.prog ay C (Tu C) 106 (cH Try.prog (ay.aT 106)) (ay.sin 106).bc.length b
theorem aft (C:ag):Tv C (.loop (aw [1,1,0,1,0,0,1,0,0,1,0,1,0,1,0,0] FT)):=
 ca J0 [true,false,false,true,true] [[0,2,3,0,0,0]] (@xV C) (by kernel_rfl) (bf (bs:=[]) (by kernel_rfl) ax) (fun ds=>by kernel_rfl) (fun i x=>by kernel_rfl) (fun i x β k=>by kernel_rfl) (fun β ds k=>by kernel_rfl)
theorem afu (C:ag):Tv C (.loop (aw [1,1,0,1,0,0] FT)):=
 ca J1 [true,false] [[0],[0,0,2]] (@xW C) (by kernel_rfl) (bf (bs:=[.loop (aw [1,1,0,1,0,0,1,0,0,1,0,1,0,1,0,0] FT)]) (by kernel_rfl) (bA (aft C) ax)) (fun ds=>by kernel_rfl) (fun i x=>by kernel_rfl) (fun i x β k=>by kernel_rfl) (fun β ds k=>by kernel_rfl)
noncomputable def FU (C:ag) (ss:List V):Option (List V):=
 bif decide (((ss.length:Int):Int)<2) then
  some [V.bool true,.list aa ss]
 else
  (Loop (u3 C ss) 1).bind (b7 (fun (afv:List V)=>
   some [V.bool false,.list aa afv]) (un fun (aka:Int) (xd:Bool)=>
   some [V.bool true,.list aa ss]))
theorem LC {ss:List V} {r:Option (List V)} (h:FU CC ss=r):CC EN [.list aa ss]=r:=
 a9 (key:=106) (L:=Tu CC) (bs:=[.loop (aw [1,1,0,1,0,0] FT)]) (by kernel_rfl) (bA (afu CC) ax) (aZ (by kernel_rfl) h)
noncomputable def Tw (C:ag) (gy:List V):Option (List V):=
 (C Aq [.list aa gy]).bind fun r1=>
 (C EN [.list aa ((V.nth r1 0).toList)]).bind fun r2=>
 bif (V.nth r2 0).toBool then
  some [V.bool true,.list aa ((V.nth (r2.drop 1) 0).toList)]
 else
  some [V.bool false,.list aa ((V.nth (r2.drop 1) 0).toList)]
theorem afw {gy:List V} {r:Option (List V)} (h:Tw CC gy=r):CC uq [.list aa gy]=r:=
 a9 (key:=98) (L:=cm) (bs:=[]) (by kernel_rfl) ax (aZ (by kernel_rfl) h)
noncomputable def Tx (C:ag) (gr gu:Int) (gT:List V) (gv gx:Int) (gU:List V):Option (List V):=
 (C bp [.int .i64 gr,.int .i64 gu,.list aa gT,.int .i64 gv,.int .i64 gx,.list aa gU]).bind fun r1=>
 some [.bool ((((V.nth r1 0).toInt):Int)==0)]
theorem afx {gr gu:Int} {gT:List V} {gv gx:Int} {gU:List V} {r:Option (List V)} (h:Tx CC gr gu gT gv gx gU=r):CC pD [.int .i64 gr,.int .i64 gu,.list aa gT,.int .i64 gv,.int .i64 gx,.list aa gU]=r:=
 a9 (key:=107) (L:=cm) (bs:=[]) (by kernel_rfl) ax (aZ (by kernel_rfl) h)
end Go.AM
set_option maxRecDepth 100000
namespace Go.AM
open Go.Proofs Ex
def nK (prev:Ex):List Ex→List Ex
 | []=>[]
 | x::l=>if cmp x prev=0 then nK x l else x::nK x l
def iW:List Ex→List Ex
 | []=>[]
 | x::l=>x::nK x l
theorem Tz: ∀(m:List Ex) (prev x:Ex),nK prev (m++[x])=nK prev m++(if cmp x ((prev::m).getD m.length ba)=0 then [] else [x])
 | [],prev,x=>by simp only[List.nil_append,nK,List.length_nil,yM]
 | y::m,prev,x=>by
  have ih:=Tz m y x
  simp only[List.cons_append,nK,List.length_cons,List.getD_cons_succ]
  split
  ·exact ih
  ·rw[ih];rfl
theorem TA {l:List Ex} {p:Nat} (h1:1≤p) (U:p<l.length):iW (l.take (p+1))=iW (l.take p)++(if cmp (l.getD p ba) (l.getD (p-1) ba)=0 then [] else [l.getD p ba]):=by
 match l,p,h1,U with
 | y::l,p+1,_,U=>
  simp only[List.length_cons] at U
  rw[List.take_succ_cons,List.take_succ_cons,iW,iW,kW (by omega),Tz]
  simp only[List.getD_cons_succ,eP,vg]
  rw[show min p l.length=p by omega]
  have:(y::l.take p).getD p ba=(y::l).getD p ba:=by
   match p with
   | 0=>rfl
   | q+1=>simp only[List.getD_cons_succ];rw[jq,jq,eO (by omega)]
  rw[this];rfl
theorem TB: ∀(m:List Ex) (prev:Ex),(prev::m).Pairwise (fun x y=> ¬y.lx x)→jF (prev::nK prev m)∧∀x,x∈prev::nK prev m↔x∈prev::m
 | [],prev,_=>⟨by simp[nK],by simp[nK]⟩
 | y::m,prev,h=>by
  have h1:=sY.1 h
  obtain ⟨i1,i2⟩:=TB m y h1.2
  rw[nK]
  by_cases hc:cmp y prev=0
  ·rw[aj hc]
   have:=uD _ _ hc
   subst this
   refine ⟨i1,fun x=> ?_⟩
   rw[i2 x];simp
  ·rw[ai hc]
   have aO:prev.lx y:=by
    by_cases U:prev.lx y
    ·exact U
    ·exact absurd (Ex.RB U (h1.1 y (by simp))) fun e=>hc (by rw[e];exact AK _)
   refine ⟨sY.2 ⟨fun x hx=> ?_,i1⟩,fun x=> ?_⟩
   ·rcases di.1 hx with rfl|hx
    ·exact aO
    ·exact Ex.KP aO ((sY.1 i1).1 x hx)
   ·rw[di,i2 x,←di]
theorem afy {l:List Ex} (h:l.Pairwise (fun x y=> ¬y.lx x)):jF (iW l)∧∀x,x∈iW l↔x∈l:=by
 match l,h with
 | [],_=>exact ⟨List.Pairwise.nil,fun _=>Iff.rfl⟩
 | y::l,h=>exact TB l y h
theorem TC (a:Ex) (ha:a.Ok) (b:Ex) (hb:b.Ok):CC pD (bH a (bH b []))=some [.bool (decide (cmp a b=0))]:=by
 refine afx ?_
 unfold Tx
 refine (congrArg (fun o=>Option.bind o _) (Rt a ha b hb)).trans ?_
 simp only[Option.bind_some,V.aW,V.toInt_int]
 rw[AT]
section
variable {l:List Ex} (hn:l.length≤1000000) (au: ∀k∈l,k.Ok)
include hn au
theorem afz {k:Nat}: ∀(d k2 i:Nat) (ss:List Ex),k+k2+d=l.length→1≤k2→i+1≤k+k2→ss.length=l.length→ss.take i=iW (l.take (k+k2))→ss.drop (k+k2-1)=l.drop (k+k2-1)→
  ∃t u eU,Loop (u0 CC k (l.length-k)) ((i:Int),(k2:Int),ss.map enc)=some (((iW l).length:Int),u,t,List.map enc eU)∧eU.take (iW l).length=iW l∧eU.length=l.length:=by
 intro d
 induction d with
 | zero=>
  intro k2 i ss hj mo hi hl ht hd
  have e0:l.take (k+k2)=l:=yL (by omega)
  rw[e0] at ht
  have gO:i=(iW l).length:=by rw[←ht,eP];omega
  refine ⟨false,(k2:Int),ss,aV ?_,by rw[←gO];exact ht,hl⟩
  simp only[u0,xV,un,aP,az]
  rw[ai (by omega),cr (by omega),gO]
 | succ d ih=>
  intro k2 i ss hj mo hi hl ht hd
  have hp:k+k2<l.length:=by omega
  have iE:ss.drop (k+k2)=l.drop (k+k2):=by
   have h:=congrArg (List.drop 1) hd
   rw[pX,pX] at h
   rwa [show k+k2-1+1=k+k2 by omega] at h
  have g1:=AX hl iE hp
  have g0:=AX hl hd (show k+k2-1<l.length by omega)
  have x1:(ss.map enc)[k+k2]? =some (l.getD (k+k2) ba).enc:=by rw[oI (by omega),g1]
  have x0:(ss.map enc)[k+(k2-1)]? =some (l.getD (k+k2-1) ba).enc:=by rw[show k+(k2-1)=k+k2-1 by omega,oI (by omega),g0]
  have w1:IntKind.wrap .i64 ((k2:Int)-1)=((k2-1:Nat):Int):=by rw[wrap64 (by omega) (by omega)];omega
  have t1:((k2:Nat):Int)<((l.length-k:Nat):Int):=by omega
  have t2:(0:Int)≤((k2:Nat):Int):=by omega
  have t3:(0:Int)≤((k2-1:Nat):Int):=by omega
  have t4:((k2-1:Nat):Int)<((l.length-k:Nat):Int):=by omega
  have t5:((i:Nat):Int)<(ss.length:Int):=by omega
  have t6:(0:Int)≤((i:Nat):Int):=by omega
  have bV: ∃y,(ss.map enc)[i]? =some y:=⟨_,oI (by omega)⟩
  obtain ⟨y,hy⟩:=bV
  have co:=TC (l.getD (k+k2) ba) (xl au hp) (l.getD (k+k2-1) ba) (xl au (by omega))
  have cs:=TA (l:=l) (p:=k+k2) (by omega) hp
  by_cases he:cmp (l.getD (k+k2) ba) (l.getD (k+k2-1) ba)=0
  ·have bI:u0 CC k (l.length-k) ((i:Int),(k2:Int),ss.map enc)=some (.inl ((i:Int),((k2+1:Nat):Int),ss.map enc)):=by
    simp only[u0,xV,un,aP,az,cS,w1,t1,t2,t3,t4,cI,Int.toNat_natCast,x1,x0,Option.bind_some,bd,bj,bh]
    refine (congrArg (fun o=>Option.bind o _) co).trans ?_
    simp only[Option.bind_some,V.aW,V.ej]
    rw[dj he,pW,cond_false,wrap64 (by omega) (by omega)]
    rfl
   rw[bQ bI]
   refine ih (k2+1) i ss (by omega) (by omega) (by omega) hl ?_ (by rw[show k+(k2+1)-1=k+k2 by omega];exact iE)
   rw[show k+(k2+1)=k+k2+1 by omega,cs,aj he,cP,ht]
  ·have bI:u0 CC k (l.length-k) ((i:Int),(k2:Int),ss.map enc)=some (.inl (((i+1:Nat):Int),((k2+1:Nat):Int),(ss.set i (l.getD (k+k2) ba)).map enc)):=by
    simp only[u0,xV,un,aP,az,cS,w1,t1,t2,t3,t4,t5,t6,cI,Int.toNat_natCast,x1,x0,hy,Option.bind_some,bd,bj,bh]
    refine (congrArg (fun o=>Option.bind o _) co).trans ?_
    simp only[Option.bind_some,V.aW,V.ej]
    rw[cr he,sZ,cond_true,wrap64 (by omega) (by omega),wrap64 (by omega) (by omega),←dg,yN]
    rfl
   rw[bQ bI]
   refine ih (k2+1) (i+1) (ss.set i (l.getD (k+k2) ba)) (by omega) (by omega) (by omega) (by simpa using hl) ?_ ?_
   ·rw[kW (by rw[nQ];omega),Cw (bY i),ht,show k+(k2+1)=k+k2+1 by omega,cs,ai he]
    simp[show i<ss.length by omega]
   ·rw[show k+(k2+1)-1=k+k2 by omega,Cx (by omega),iE]
theorem afA: ∀(d p:Nat),p+d=l.length→1≤p→iW (l.take p)=l.take p→
  (iW l=l∧∃t,Loop (u3 CC (l.map enc)) (p:Int)=some (.inr t))∨Loop (u3 CC (l.map enc)) (p:Int)=some (.inl ((iW l).map enc)):=by
 intro d
 induction d with
 | zero=>
  intro p hp h1 hc
  obtain rfl:p=l.length:=by omega
  rw[pU] at hc
  refine .inl ⟨hc,((l.length:Int),false),aV ?_⟩
  simp only[u3,xW,aP,az]
  rw[ai (by omega),cr (by omega)]
 | succ d ih=>
  intro p hp h1 hc
  have bE:p<l.length:=by omega
  have cs:=TA (l:=l) h1 bE
  have co:=TC (l.getD p ba) (xl au bE) (l.getD (p-1) ba) (xl au (by omega))
  have x1:(l.map enc)[p]? =some (l.getD p ba).enc:=oI bE
  have x0:(l.map enc)[p-1]? =some (l.getD (p-1) ba).enc:=oI (by omega)
  have w1:IntKind.wrap .i64 ((p:Int)-1)=((p-1:Nat):Int):=by rw[wrap64 (by omega) (by omega)];omega
  have t1:((p:Nat):Int)<(l.length:Int):=by omega
  have t2:(0:Int)≤((p:Nat):Int):=by omega
  have t3:(0:Int)≤((p-1:Nat):Int):=by omega
  have t4:((p-1:Nat):Int)<(l.length:Int):=by omega
  have t5:((p:Nat):Int)≤(l.length:Int):=by omega
  by_cases he:cmp (l.getD p ba) (l.getD (p-1) ba)=0
  ·refine .inr (aV ?_)
   obtain ⟨t,u,eU,e1,e2,e3⟩:=afz hn au (k:=p) (l.length-(p+1)) 1 p l (by omega) (by omega) (by omega) rfl (by rw[cs,aj he,cP,hc]) rfl
   have hm:(iW l).length≤eU.length:=by
    have:=congrArg List.length e2
    rw[eP] at this
    omega
   have m1:(0:Int)≤(((iW l).length:Nat):Int):=by omega
   have m2:(((iW l).length:Nat):Int)≤((eU.map enc).length:Int):=by rw[aP];omega
   simp only[u3,xW,aP,az,cS,w1,t1,t2,t3,t4,t5,cI,Int.toNat_natCast,x1,x0,Option.bind_some,bd,bj,bh]
   refine (congrArg (fun o=>Option.bind o _) co).trans ?_
   simp only[Option.bind_some,V.aW,V.ej]
   rw[dj he,cond_true]
   refine (congrArg (fun o=>Option.bind o _) e1).trans ?_
   simp only[Option.bind_some,un,cS,az,Int.toNat_natCast]
   rw[aj m1,aj m2,aj m1,aj (by simp only[bS,eP,sW,oX,aP];omega),Fy _ _ _ hm,e2]
  ·have bI:u3 CC (l.map enc) (p:Int)=some (.inl ((p+1:Nat):Int)):=by
    simp only[u3,xW,aP,az,cS,w1,t1,t2,t3,t4,cI,Int.toNat_natCast,x1,x0,Option.bind_some,bd,bj,bh]
    refine (congrArg (fun o=>Option.bind o _) co).trans ?_
    simp only[Option.bind_some,V.aW,V.ej]
    rw[cr he,cond_false,wrap64 (by omega) (by omega)]
    rfl
   rw[bQ bI]
   exact ih (p+1) (by omega) (by omega) (by rw[cs,ai he,hc,←kW bE])
theorem afB: ∃b,CC EN [.list aa (l.map enc)]=some [.bool b,.list aa ((iW l).map enc)]:=by
 by_cases U:l.length<2
 ·refine ⟨true,LC ?_⟩
  unfold FU
  rw[aP,az,aj (by omega)]
  match l,U with
  | [],_=>rfl
  | [k],_=>rfl
 ·rcases afA hn au (l.length-1) 1 (by omega) (by omega) (by
   match l,U with
   | k::l,_=>rfl) with ⟨h3,t,h4⟩|h4
  ·refine ⟨true,LC ?_⟩
   unfold FU
   rw[aP,az,ai (by omega)]
   refine (congrArg (fun o=>Option.bind o _) h4).trans ?_
   rw[h3];rfl
  ·refine ⟨false,LC ?_⟩
   unfold FU
   rw[aP,az,ai (by omega)]
   refine (congrArg (fun o=>Option.bind o _) h4).trans ?_
   rfl
theorem afC: ∃R:List Ex,CC Aq [.list aa (l.map enc)]=some [.list aa (R.map enc)]∧R.Perm l∧R.Pairwise (fun x y=> ¬y.lx x):=by
 have hx: ∃L:List SX.XE,L.map SX.XE.e=l:=by
  clear hn
  induction l with
  | nil=>exact ⟨[],rfl⟩
  | cons k l ih=>
   obtain ⟨L,hL⟩:=ih fun k hk=>au k (by simp[hk])
   exact ⟨⟨k,au k (by simp)⟩::L,by rw[cz,hL]⟩
 obtain ⟨L,rfl⟩:=hx
 have he: ∀L:List SX.XE,L.map SX.XE.enc=(L.map SX.XE.e).map enc:=fun L=>by rw[List.map_map];rfl
 obtain ⟨R,e1,h1,U⟩:=SX.afs L (by rw[aP] at hn;omega)
 refine ⟨R.map SX.XE.e,?_,h1.map _,List.pairwise_map.2 U⟩
 rw[←he,←he];exact e1
theorem TD: ∃b,CC uq [.list aa (l.map enc)]=some [.bool b,.list aa ((l.foldl dQ []).map enc)]:=by
 obtain ⟨R,e1,h1,U⟩:=afC hn au
 obtain ⟨b,e2⟩:=afB (l:=R) (by rw[h1.length_eq];exact hn) fun k hk=>au k (h1.mem_iff.1 hk)
 obtain ⟨c1,c2⟩:=afy U
 have hc:iW R=l.foldl dQ []:=KQ c1 Ft fun x=>by rw[c2,xp,h1.mem_iff]
 rw[hc] at e2
 refine ⟨b,afw ?_⟩
 unfold Tw
 refine (congrArg (fun o=>Option.bind o _) e1).trans ?_
 simp only[Option.bind_some,V.aW,V.kb]
 refine (congrArg (fun o=>Option.bind o _) e2).trans ?_
 cases b<;>rfl
end
end Go.AM
set_option maxRecDepth 100000
namespace Go.AM
open Go.Proofs
noncomputable def TE (C:ag) (kids:List V):Option (List V):=
 (C Jd [.list aa kids]).bind fun r1=>
 bif (V.nth r1 0).toBool then
  (C sg []).bind fun r2=>
  some [.int .i64 ((V.nth r2 0).toInt),.int .i64 ((V.nth (r2.drop 1) 0).toInt),.list aa ((V.nth (r2.drop 2) 0).toList)]
 else
  (C wV [.int .i64 4,.list aa kids]).bind fun r3=>
  (C EX [.list aa ((V.nth r3 0).toList)]).bind fun r4=>
  bif (V.nth r4 0).toBool then
  (C uq [.list aa ((V.nth (r4.drop 1) 0).toList)]).bind fun r5=>
  bif (V.nth r5 0).toBool then
   (C pC []).bind fun r6=>
   (C my [.int .i64 4,.list aa ((V.nth (r5.drop 1) 0).toList),.int .i64 ((V.nth r6 0).toInt),.int .i64 ((V.nth (r6.drop 1) 0).toInt),.list aa ((V.nth (r6.drop 2) 0).toList)]).bind fun r7=>
   some [.int .i64 ((V.nth r7 0).toInt),.int .i64 ((V.nth (r7.drop 1) 0).toInt),.list aa ((V.nth ((r7.drop 1).drop 1) 0).toList)]
  else
   (C pC []).bind fun r8=>
   (C my [.int .i64 4,.list aa ((V.nth (r5.drop 1) 0).toList),.int .i64 ((V.nth r8 0).toInt),.int .i64 ((V.nth (r8.drop 1) 0).toInt),.list aa ((V.nth (r8.drop 2) 0).toList)]).bind fun r9=>
   some [.int .i64 ((V.nth r9 0).toInt),.int .i64 ((V.nth (r9.drop 1) 0).toInt),.list aa ((V.nth ((r9.drop 1).drop 1) 0).toList)]
  else
  (C uq [.list aa ((V.nth (r4.drop 1) 0).toList)]).bind fun cT=>
  bif (V.nth cT 0).toBool then
   (C pC []).bind fun dM=>
   (C my [.int .i64 4,.list aa ((V.nth (cT.drop 1) 0).toList),.int .i64 ((V.nth dM 0).toInt),.int .i64 ((V.nth (dM.drop 1) 0).toInt),.list aa ((V.nth (dM.drop 2) 0).toList)]).bind fun eW=>
   some [.int .i64 ((V.nth eW 0).toInt),.int .i64 ((V.nth (eW.drop 1) 0).toInt),.list aa ((V.nth ((eW.drop 1).drop 1) 0).toList)]
  else
   (C pC []).bind fun gz=>
   (C my [.int .i64 4,.list aa ((V.nth (cT.drop 1) 0).toList),.int .i64 ((V.nth gz 0).toInt),.int .i64 ((V.nth (gz.drop 1) 0).toInt),.list aa ((V.nth (gz.drop 2) 0).toList)]).bind fun iS=>
   some [.int .i64 ((V.nth iS 0).toInt),.int .i64 ((V.nth (iS.drop 1) 0).toInt),.list aa ((V.nth ((iS.drop 1).drop 1) 0).toList)]
theorem afD {kids:List V} {r:Option (List V)} (h:TE CC kids=r):CC EH [.list aa kids]=r:=
 a9 (key:=78) (L:=cm) (bs:=[]) (by kernel_rfl) ax (aZ (by kernel_rfl) h)
noncomputable def TF (C:ag) (kids:List V):Option (List V):=
 (C se [.list aa kids]).bind fun r1=>
 bif (V.nth r1 0).toBool then
  (C pC []).bind fun r2=>
  some [.int .i64 ((V.nth r2 0).toInt),.int .i64 ((V.nth (r2.drop 1) 0).toInt),.list aa ((V.nth (r2.drop 2) 0).toList)]
 else
  (C wV [.int .i64 5,.list aa kids]).bind fun r3=>
  (C EV [.list aa ((V.nth r3 0).toList)]).bind fun r4=>
  bif (V.nth r4 0).toBool then
  (C uo []).bind fun r5=>
  (C my [.int .i64 5,.list aa ((V.nth (r4.drop 1) 0).toList),.int .i64 ((V.nth r5 0).toInt),.int .i64 ((V.nth (r5.drop 1) 0).toInt),.list aa ((V.nth (r5.drop 2) 0).toList)]).bind fun r6=>
  some [.int .i64 ((V.nth r6 0).toInt),.int .i64 ((V.nth (r6.drop 1) 0).toInt),.list aa ((V.nth ((r6.drop 1).drop 1) 0).toList)]
  else
  (C uo []).bind fun r7=>
  (C my [.int .i64 5,.list aa ((V.nth (r4.drop 1) 0).toList),.int .i64 ((V.nth r7 0).toInt),.int .i64 ((V.nth (r7.drop 1) 0).toInt),.list aa ((V.nth (r7.drop 2) 0).toList)]).bind fun r8=>
  some [.int .i64 ((V.nth r8 0).toInt),.int .i64 ((V.nth (r8.drop 1) 0).toInt),.list aa ((V.nth ((r8.drop 1).drop 1) 0).toList)]
theorem afE {kids:List V} {r:Option (List V)} (h:TF CC kids=r):CC EI [.list aa kids]=r:=
 a9 (key:=79) (L:=cm) (bs:=[]) (by kernel_rfl) ax (aZ (by kernel_rfl) h)
noncomputable def TG (C:ag) (kids:List V):Option (List V):=
 (C se [.list aa kids]).bind fun r1=>
 bif (V.nth r1 0).toBool then
  (C pC []).bind fun r2=>
  some [.int .i64 ((V.nth r2 0).toInt),.int .i64 ((V.nth (r2.drop 1) 0).toInt),.list aa ((V.nth (r2.drop 2) 0).toList)]
 else
  (C wV [.int .i64 6,.list aa kids]).bind fun r3=>
  (C wU [.list aa ((V.nth r3 0).toList)]).bind fun r4=>
  bif (V.nth r4 0).toBool then
  (C uq [.list aa ((V.nth (r4.drop 1) 0).toList)]).bind fun r5=>
  bif (V.nth r5 0).toBool then
   (C sg []).bind fun r6=>
   (C my [.int .i64 6,.list aa ((V.nth (r5.drop 1) 0).toList),.int .i64 ((V.nth r6 0).toInt),.int .i64 ((V.nth (r6.drop 1) 0).toInt),.list aa ((V.nth (r6.drop 2) 0).toList)]).bind fun r7=>
   some [.int .i64 ((V.nth r7 0).toInt),.int .i64 ((V.nth (r7.drop 1) 0).toInt),.list aa ((V.nth ((r7.drop 1).drop 1) 0).toList)]
  else
   (C sg []).bind fun r8=>
   (C my [.int .i64 6,.list aa ((V.nth (r5.drop 1) 0).toList),.int .i64 ((V.nth r8 0).toInt),.int .i64 ((V.nth (r8.drop 1) 0).toInt),.list aa ((V.nth (r8.drop 2) 0).toList)]).bind fun r9=>
   some [.int .i64 ((V.nth r9 0).toInt),.int .i64 ((V.nth (r9.drop 1) 0).toInt),.list aa ((V.nth ((r9.drop 1).drop 1) 0).toList)]
  else
  (C uq [.list aa ((V.nth (r4.drop 1) 0).toList)]).bind fun cT=>
  bif (V.nth cT 0).toBool then
   (C sg []).bind fun dM=>
   (C my [.int .i64 6,.list aa ((V.nth (cT.drop 1) 0).toList),.int .i64 ((V.nth dM 0).toInt),.int .i64 ((V.nth (dM.drop 1) 0).toInt),.list aa ((V.nth (dM.drop 2) 0).toList)]).bind fun eW=>
   some [.int .i64 ((V.nth eW 0).toInt),.int .i64 ((V.nth (eW.drop 1) 0).toInt),.list aa ((V.nth ((eW.drop 1).drop 1) 0).toList)]
  else
   (C sg []).bind fun gz=>
   (C my [.int .i64 6,.list aa ((V.nth (cT.drop 1) 0).toList),.int .i64 ((V.nth gz 0).toInt),.int .i64 ((V.nth (gz.drop 1) 0).toInt),.list aa ((V.nth (gz.drop 2) 0).toList)]).bind fun iS=>
   some [.int .i64 ((V.nth iS 0).toInt),.int .i64 ((V.nth (iS.drop 1) 0).toInt),.list aa ((V.nth ((iS.drop 1).drop 1) 0).toList)]
theorem afF {kids:List V} {r:Option (List V)} (h:TG CC kids=r):CC EJ [.list aa kids]=r:=
 a9 (key:=80) (L:=cm) (bs:=[]) (by kernel_rfl) ax (aZ (by kernel_rfl) h)
noncomputable def LD (C:ag) (op:Int) (kids:List V):Option (List V):=
 bif (op:Int)==4 then
  (C EH [.list aa kids]).bind fun r1=>
  some [.int .i64 ((V.nth r1 0).toInt),.int .i64 ((V.nth (r1.drop 1) 0).toInt),.list aa ((V.nth ((r1.drop 1).drop 1) 0).toList)]
 else
  bif (op:Int)==5 then
  (C EI [.list aa kids]).bind fun r2=>
  some [.int .i64 ((V.nth r2 0).toInt),.int .i64 ((V.nth (r2.drop 1) 0).toInt),.list aa ((V.nth ((r2.drop 1).drop 1) 0).toList)]
  else
  bif (op:Int)==6 then
   (C EJ [.list aa kids]).bind fun r3=>
   some [.int .i64 ((V.nth r3 0).toInt),.int .i64 ((V.nth (r3.drop 1) 0).toInt),.list aa ((V.nth ((r3.drop 1).drop 1) 0).toList)]
  else
   bif ((kids.length:Int):Int) != 1 then
   some [.int .i64 0,.int .i64 0,.list aa ([]:List V)]
   else
   (kids[0]?).bind fun x4=>
   bif (op:Int)==8 then
    bif (((x4.cell 0).toInt):Int)==8 then
    bif ((((x4.cell 2).toList).length:Int):Int)==1 then
     (((x4.cell 2).toList)[0]?).bind fun x5=>
     some [.int .i64 ((x5.cell 0).toInt),.int .i64 ((x5.cell 1).toInt),.list aa ((x5.cell 2).toList)]
    else
     some [.int .i64 8,.int .i64 0,.list aa ([.agg [.int .i64 ((x4.cell 0).toInt),.int .i64 ((x4.cell 1).toInt),.list aa ((x4.cell 2).toList)]]:List V)]
    else
    some [.int .i64 8,.int .i64 0,.list aa ([.agg [.int .i64 ((x4.cell 0).toInt),.int .i64 ((x4.cell 1).toInt),.list aa ((x4.cell 2).toList)]]:List V)]
   else
    bif (op:Int)==7 then
    bif (((x4.cell 0).toInt):Int)==1 then
     (C uo []).bind fun r6=>
     some [.int .i64 ((V.nth r6 0).toInt),.int .i64 ((V.nth (r6.drop 1) 0).toInt),.list aa ((V.nth (r6.drop 2) 0).toList)]
    else
     bif (((x4.cell 0).toInt):Int)==2 then
     (C uo []).bind fun r7=>
     some [.int .i64 ((V.nth r7 0).toInt),.int .i64 ((V.nth (r7.drop 1) 0).toInt),.list aa ((V.nth (r7.drop 2) 0).toList)]
     else
     bif (((x4.cell 0).toInt):Int)==7 then
      some [.int .i64 ((x4.cell 0).toInt),.int .i64 ((x4.cell 1).toInt),.list aa ((x4.cell 2).toList)]
     else
      (C mu [.int .i64 ((x4.cell 0).toInt),.int .i64 ((x4.cell 1).toInt),.list aa ((x4.cell 2).toList)]).bind fun r8=>
      bif (V.nth r8 0).toBool then
      some [.int .i64 ((x4.cell 0).toInt),.int .i64 ((x4.cell 1).toInt),.list aa ((x4.cell 2).toList)]
      else
      some [.int .i64 7,.int .i64 0,.list aa ([.agg [.int .i64 ((x4.cell 0).toInt),.int .i64 ((x4.cell 1).toInt),.list aa ((x4.cell 2).toList)]]:List V)]
    else
    some [.int .i64 0,.int .i64 0,.list aa ([]:List V)]
theorem TH {op:Int} {kids:List V} {r:Option (List V)} (h:LD CC op kids=r):CC kh [.int .i64 op,.list aa kids]=r:=
 a9 (key:=69) (L:=cm) (bs:=[]) (by kernel_rfl) ax (aZ (by kernel_rfl) h)
noncomputable abbrev TI:Code:=cC Try.prog (ay.aT 59)
noncomputable def Bx (C:ag) (t20:List V) (t21 dA c7:Int) (cF:List V) (jM jN:Int) (bJ:List V) (t22:Int) (nL:List V) {β:Type} (kn:(Int × (List V))→Option β) (kr:(Int × Bool × (List V))→Option β):Option β:=
 bif decide ((t22:Int)<t21) then
  (idx t20 t22).bind fun x1=>
  (C uk [.int .i64 ((x1.cell 0).toInt),.int .i64 ((x1.cell 1).toInt),.list aa ((x1.cell 2).toList)]).bind fun r2=>
  bif (decide (0≤t22))&&(decide (t22<(nL.length:Int))) then
  (nL[(t22:Int).toNat]?).bind fun x3=>
  kn (IntKind.wrap .i64 (t22+1),nL.set ((t22:Int).toNat) (.agg [.int .i64 ((V.nth r2 0).toInt),.int .i64 ((V.nth (r2.drop 1) 0).toInt),.list aa ((V.nth ((r2.drop 1).drop 1) 0).toList)]))
  else none
 else
  kr (t22,decide ((t22:Int)<t21),nL)
noncomputable def FV (C:ag) (t20:List V) (t21 dA c7:Int) (cF:List V) (jM jN:Int) (bJ:List V):(Int × (List V))→Option ((Int × (List V)) ⊕ (Int × Bool × (List V))):=un fun t22 nL=>Bx C t20 t21 dA c7 cF jM jN bJ t22 nL (fun y=>some (.inl y)) (fun r=>some (.inr r))
noncomputable def TJ (C:ag):cp:=fun β n ds k=>
 bif Nat.beq n 81 then bW JG [false,false,true,false,false,false,false,false,true,false] [[1,2,0,0,4,5,6,7,8,0,10]] (@Bx C) ds k else
 none
abbrev afG (C:ag) (b:cj):Prop:=cl Try.prog ay C (TJ C) 59 (cH Try.prog (ay.aT 59)) (ay.sin 59).bc.length b
theorem afH (C:ag):afG C (.loop (aw [1,1,1,0,1,0,0] TI)):=
 ca JG [false,false,true,false,false,false,false,false,true,false] [[1,2,0,0,4,5,6,7,8,0,10]] (@Bx C) (by kernel_rfl) (bf (bs:=[]) (by kernel_rfl) ax) (fun ds=>by kernel_rfl) (fun i x=>by kernel_rfl) (fun i x β k=>by kernel_rfl) (fun β ds k=>by kernel_rfl)
noncomputable def TK (C:ag) (af aq:Int) (ae:List V):Option (List V):=
 bif ((ae.length:Int):Int)==0 then
  some [.int .i64 af,.int .i64 aq,.list aa ([]:List V)]
 else
  bif (decide (0≤(ae.length:Int)))&&((decide ((ae.length:Int)≤(ae.length:Int)))&&(Nat.ble ((((ae.length:Int):Int).toNat)*40) bU)) then
  (Loop (FV C ae (ae.length:Int) af aq ae 0 0 ([]:List V)) (0,List.replicate (((ae.length:Int):Int).toNat) (V.agg [.int .i64 0,.int .i64 0,.list aa ([]:List V)]))).bind (un fun (kj:Int)=>un fun (oG:Bool) (afI:List V)=>
   (C kh [.int .i64 af,.list aa afI]).bind fun r7=>
   some [.int .i64 ((V.nth r7 0).toInt),.int .i64 ((V.nth (r7.drop 1) 0).toInt),.list aa ((V.nth ((r7.drop 1).drop 1) 0).toList)])
  else none
theorem afJ {af aq:Int} {ae:List V} {r:Option (List V)} (h:TK CC af aq ae=r):CC uk [.int .i64 af,.int .i64 aq,.list aa ae]=r:=
 a9 (key:=59) (L:=TJ CC) (bs:=[.loop (aw [1,1,1,0,1,0,0] TI)]) (by kernel_rfl) (bA (afH CC) ax) (aZ (by kernel_rfl) h)
noncomputable def TL (C:ag) (af aq:Int) (ae:List V):Option (List V):=
 (C Al [.int .i64 af,.int .i64 aq,.list aa ae]).bind fun r1=>
 bif !((V.nth r1 0).toBool) then
  some [.int .i64 0,.int .i64 0,.list aa ([]:List V)]
 else
  (C uk [.int .i64 af,.int .i64 aq,.list aa ae]).bind fun r2=>
  some [.int .i64 ((V.nth r2 0).toInt),.int .i64 ((V.nth (r2.drop 1) 0).toInt),.list aa ((V.nth ((r2.drop 1).drop 1) 0).toList)]
theorem afK {af aq:Int} {ae:List V} {r:Option (List V)} (h:TL CC af aq ae=r):CC Ai [.int .i64 af,.int .i64 aq,.list aa ae]=r:=
 a9 (key:=41) (L:=cm) (bs:=[]) (by kernel_rfl) ax (aZ (by kernel_rfl) h)
end Go.AM
set_option maxRecDepth 100000
namespace Go.AM
open Go.Proofs Ex
theorem u4:CC pC []=some (et ek):=acE rfl
theorem FW:CC uo []=some (et ji):=acG rfl
theorem By:CC sg []=some (et iR):=by
 refine acH ?_
 unfold Rz
 refine bs u4 ?_
 simp[et,ek,iR,Ex.op,Ex.bm,Ex.kids,dg]
theorem TM (o:Int) (l:List Ex):(l.filter fun k=> !(decide (k.op=o)))=l.filter fun k=>decide (k.op≠o):=by
 congr 1;funext k;simp
theorem TN {ks:List Ex} (hlen:ks.length≤1000000):CC se [.list aa (ks.map enc)]=some [.bool (ks.any fun k=>decide (k.op=1))]:=adF hlen
theorem afL {ks:List Ex} (hn:ks.length≤1000000): ∃b,CC EX [.list aa (ks.map enc)]=some [.bool b,.list aa ((ks.filter (fun k=>decide (k.op≠1))).map enc)]:=by
 rw[←TM];exact adH hn
theorem afM {ks:List Ex} (hn:ks.length≤1000000): ∃b,CC EV [.list aa (ks.map enc)]=some [.bool b,.list aa ((ks.filter (fun k=>decide (k.op≠2))).map enc)]:=by
 rw[←TM];exact adL hn
theorem FX {o:Int} {ks:List Ex} (h: ∀k∈ks,k.Ok): ∀k∈bq o ks,k.Ok:=fun x hx=>by
 obtain ⟨k,h1,U|U⟩:=nw.1 hx
 ·have:=h k h1
  obtain ⟨o2,l2,jl⟩:=k
  exact this.lL x U.2
 ·rw[U.2];exact h k h1
theorem afN {n:Int} {ks:List Ex} (hk: ∀k∈ks,Gd n k) (hs:aJ ks≤1000000):CC EI [.list aa (ks.map enc)]=some (et (dK 5 0 ks)):=by
 have hl:=ko ks
 have a1:=qQ 5 ks
 have a2:=ko (bq 5 ks)
 refine afE ?_
 unfold TF
 rw[sw,K3 hk]
 refine bs (TN (by omega)) ?_
 cases hu:ks.any fun k=>decide (k.op=1) with
 | true=>
  refine bT rfl ?_
  refine bs u4 ?_
  rfl
 | false=>
  refine bF rfl ?_
  refine bs (KO (by omega) (by omega)) ?_
  obtain ⟨b,e⟩:=afM (ks:=bq 5 ks) (by omega)
  refine bs e ?_
  cases b
  ·exact bF rfl (bs FW (bs (pG (z:=ji)) rfl))
  ·exact bT rfl (bs FW (bs (pG (z:=ji)) rfl))
section
variable {n:Int} {ks:List Ex} (hk: ∀k∈ks,Gd n k) (au: ∀k∈ks,k.Ok) (hs:aJ ks≤1000000)
include hk au hs
theorem afO:CC EH [.list aa (ks.map enc)]=some (et (dK 4 0 ks)):=by
 have hl:=ko ks
 have a1:=qQ 4 ks
 have a2:=ko (bq 4 ks)
 refine afD ?_
 unfold TE
 rw[uG,RX hk]
 refine bs (adN (by omega)) ?_
 cases hu:ks.any univ with
 | true=>
  refine bT rfl ?_
  refine bs By ?_
  rfl
 | false=>
  refine bF rfl ?_
  refine bs (KO (by omega) (by omega)) ?_
  obtain ⟨b,e⟩:=afL (ks:=bq 4 ks) (by omega)
  refine bs e ?_
  obtain ⟨b2,e2⟩:=TD (l:=(bq 4 ks).filter fun k=>decide (k.op≠1)) (by have:=s0 (fun k:Ex=>decide (k.op≠1)) (bq 4 ks);omega) fun k h=>FX au k (nT.1 h).1
  cases b
  ·refine bF rfl ?_
   refine bs e2 ?_
   cases b2
   ·exact bF rfl (bs u4 (bs (pG (z:=ek)) rfl))
   ·exact bT rfl (bs u4 (bs (pG (z:=ek)) rfl))
  ·refine bT rfl ?_
   refine bs e2 ?_
   cases b2
   ·exact bF rfl (bs u4 (bs (pG (z:=ek)) rfl))
   ·exact bT rfl (bs u4 (bs (pG (z:=ek)) rfl))
theorem afP:CC EJ [.list aa (ks.map enc)]=some (et (dK 6 0 ks)):=by
 have hl:=ko ks
 have a1:=qQ 6 ks
 have a2:=ko (bq 6 ks)
 refine afF ?_
 unfold TG
 rw[xm,ac8 hk]
 refine bs (TN (by omega)) ?_
 cases hu:ks.any fun k=>decide (k.op=1) with
 | true=>
  refine bT rfl ?_
  refine bs u4 ?_
  rfl
 | false=>
  refine bF rfl ?_
  refine bs (KO (by omega) (by omega)) ?_
  obtain ⟨b,e⟩:=adP (ks:=bq 6 ks) (by omega)
  refine bs e ?_
  obtain ⟨b2,e2⟩:=TD (l:=(bq 6 ks).filter fun k=> !(univ k)) (by have:=s0 (fun k:Ex=> !(univ k)) (bq 6 ks);omega) fun k h=>FX au k (nT.1 h).1
  cases b
  ·refine bF rfl ?_
   refine bs e2 ?_
   cases b2
   ·exact bF rfl (bs By (bs (pG (z:=iR)) rfl))
   ·exact bT rfl (bs By (bs (pG (z:=iR)) rfl))
  ·refine bT rfl ?_
   refine bs e2 ?_
   cases b2
   ·exact bF rfl (bs By (bs (pG (z:=iR)) rfl))
   ·exact bT rfl (bs By (bs (pG (z:=iR)) rfl))
theorem qY {o:Int} (ho:o=4∨o=5∨o=6):CC kh [.int .i64 o,.list aa (ks.map enc)]=some (et (dK o 0 ks)):=by
 refine TH ?_
 unfold LD
 rcases ho with rfl|rfl|rfl
 ·exact bT rfl (bs (afO hk au hs) rfl)
 ·exact bF rfl (bT rfl (bs (afN hk hs) rfl))
 ·exact bF rfl (bF rfl (bT rfl (bs (afP hk au hs) rfl)))
end
theorem LF (k:Ex):[V.agg [.int .i64 k.op,.int .i64 k.bm,.list aa (k.kids.map enc)]]=[k].map enc:=by rw[←dg];rfl
theorem FY {n o:Int} {k:Ex} (hk:Gd n k) (ho:o=7∨o=8):CC kh [.int .i64 o,.list aa ([k].map enc)]=some (et (dK o 0 [k])):=by
 refine TH ?_
 unfold LD
 rcases ho with rfl|rfl
 ·refine bF rfl (bF rfl (bF rfl (bF rfl (bs (a:=k.enc) rfl (bF rfl (bT rfl ?_))))))
  rw[xn,bd,bj,bh,df,df,df]
  by_cases h1:k.op=1
  ·rw[aj h1,aj (.inl h1)];exact bs FW rfl
  ·rw[ai h1]
   by_cases U:k.op=2
   ·rw[aj U,aj (.inr U)];exact bs FW rfl
   ·rw[ai U,ai (show¬(k.op=1∨k.op=2) by omega)]
    by_cases h7:k.op=7
    ·rw[aj h7,aj (.inl h7)];rfl
    ·rw[ai h7]
     refine bs (AW k) ?_
     cases hu:univ k with
     | true=>rw[aj (.inr rfl)];exact bT rfl rfl
     | false=>
      rw[ai (by rintro (h|h);exact h7 h;cases h)]
      refine bF rfl ?_
      rw[LF];rfl
 ·refine bF rfl (bF rfl (bF rfl (bF rfl (bs (a:=k.enc) rfl (bT rfl ?_)))))
  rw[xo,bd,bj,bh,df]
  by_cases h8:k.op=8
  ·rw[aj h8,aj h8]
   have hs:=ew hk.shape
   obtain ⟨o2,l2,jl⟩:=k
   simp only[Ex.op,Ex.kids,Ex.bm] at*
   match jl,(show (jl.length:Int)=1 by omega) with
   | [x],_=>
    refine bT (by simp) (bs (a:=x.enc) rfl ?_)
    rw[bd,bj,bh];rfl
  ·rw[ai h8,ai h8,LF];rfl
theorem TO {α:Type} (a:List α) (x y:α) (b:List α) {i:Nat} (h:i=a.length):(a++x::b).set i y=(a++[y])++b:=by
 subst h;simp[List.set_append_right]
theorem afQ {ks:List Ex} {a b c d:Int} {l1 l2:List V} (hn:ks.length≤1000000) (ih: ∀k∈ks,CC uk (bH k [])=some (et (aH k))):
  ∀(av pre:List Ex),ks=pre++av→∃t,Loop (FV CC (ks.map enc) ((ks.map enc).length:Int) a b l1 c d l2) (((pre.length:Nat):Int),(pre.map aH).map enc++List.replicate av.length (V.agg [.int .i64 0,.int .i64 0,.list aa ([]:List V)]))=some (((ks.map enc).length:Int),t,(ks.map aH).map enc):=by
 intro av
 induction av with
 | nil=>
  intro pre e
  rw[cP] at e
  subst e
  refine ⟨false,aV ?_⟩
  simp only[FV,Bx,un,aP]
  rw[az,ai (by omega),cr (by omega)]
  simp
 | cons k av dP=>
  intro pre e
  have bE:pre.length<ks.length:=by rw[e];simp
  have bV:idx (ks.map enc) (pre.length:Int)=some k.enc:=by rw[e];exact ga _ _ _
  obtain ⟨t,ht⟩:=dP (pre++[k]) (by simp[e])
  refine ⟨t,(bQ ?_).trans ht⟩
  simp only[FV,Bx,un,aP]
  rw[az,aj (by omega),bV]
  simp only[Option.bind_some,bd,bj,bh]
  refine bs (ih k (by rw[e];simp)) ?_
  refine bT (by simp only[aK,ec,bS,aP,sW,List.length_cons];omega) ?_
  refine bs (a:=V.agg [.int .i64 0,.int .i64 0,.list aa ([]:List V)]) ?_ ?_
  ·rw[Int.toNat_natCast,iv (by simp)]
   simp
  ·rw[wrap64 (by omega) (by omega),Int.toNat_natCast,List.length_cons,List.replicate_succ,TO _ _ _ _ (by simp)]
   show some (Sum.inl _)=some (Sum.inl _)
   refine congrArg (fun x=>some (Sum.inl x)) (Prod.ext ?_ ?_)
   ·simp
   ·simp only[eQ,cz,fR]
    rw[dg (aH k)];rfl
theorem TP {n:Int} (hn:n≤6): ∀e:Ex,e.wf n=true→e.size≤1000000→CC uk (bH e [])=some (et (aH e)):=
 ind fun o l ks ih hw hs=>by
  obtain ⟨h1,U⟩:=gA hw
  have hl:=ko ks
  simp only[size] at hs
  have h3:=ew h1
  refine afJ ?_
  unfold TK
  simp only[Ex.op,Ex.kids,Ex.bm,aP,df]
  rw[lO]
  by_cases h0:ks=[]
  ·subst h0
   rw[aj (by simp),jH (by simp only[List.length_nil] at h3;omega)]
   rfl
  ·have hp:0<ks.length:=List.length_pos_iff.2 h0
   rw[ai (by omega)]
   refine bT (by simp only[aK,ec,dx,ki,Int.toNat_natCast];omega) ?_
   obtain ⟨t,ht⟩:=afQ (a:=o) (b:=l) (c:=0) (d:=0) (l1:=ks.map enc) (l2:=[]) (ks:=ks) (by omega) (fun k hk=>ih k hk (U k hk) (by have:=su hk;omega)) ks [] rfl
   rw[aP] at ht
   refine bs ht ?_
   have hg: ∀k∈ks.map aH,Gd n k:=fun x hx=>by
    obtain ⟨k,hk,rfl⟩:=gh.1 hx
    exact lP k (U k hk)
   have hz:aJ (ks.map aH)≤aJ ks:=by
    clear ht h3 h1 hw ih hp h0 hl hs hg
    induction ks with
    | nil=>simp[aJ]
    | cons k ks ih=>have a:=xq k (U k (by simp));have b:=ih fun k hk=>U k (by simp[hk]);simp only[cz,aJ];omega
   have au: ∀k∈ks.map aH,k.Ok:=fun k hk=>pH hn k (hg k hk).2 (by have:=su hk;omega)
   rcases (show (o=4∨o=5∨o=6)∨(o=7∨o=8) by omega) with ho|ho
   ·obtain rfl:l=0:=by omega
    exact bs (qY hg au (by omega) ho) rfl
   ·obtain rfl:l=0:=by omega
    have h5:ks.length=1:=by omega
    match ks,h5 with
    | [k],_=>exact bs (FY (hg (aH k) (by simp)) ho) rfl
theorem TQ (e:Ex) (h:e.Ok):CC Ai (bH e [])=some (et (if e.val 6=0 then aH e else ba)):=by
 refine afK ?_
 unfold TL
 refine bs (RT e h) ?_
 by_cases hv:e.val 6=0
 ·have:=lM hv
  rw[aj hv]
  refine bF (by simp[hv]) ?_
  exact bs (TP (by omega) e this.2.2 (by omega)) rfl
 ·rw[ai hv]
  refine bT (by simp[hv]) ?_
  rfl
end Go.AM
set_option maxRecDepth 100000
namespace Go.AM
open Go.Proofs
def tab {α:Type} (n:Nat) (g:Nat→α):List α:=(List.range n).map g
section
variable {α β:Type} {n i:Nat} {g h:Nat→α}
@[simp] theorem akb:(tab n g).length=n:=by simp[tab]
end
section
variable {γ:Type} {n i:Nat} {g:Nat→V}
theorem sH {es:List V} {v:V} (hi:es[i]? =some v) {K:V→Option γ}:(bif (decide (0≤(i:Int)))&&(decide ((i:Int)<(es.length:Int))) then (es[((i:Int)).toNat]?).bind K else none)=K v:=by
 have hl:i<es.length:=by
  rcases oW i es.length with h|h
  ·exact h
  ·rw[yC h] at hi;cases hi
 rw[Int.toNat_natCast,hi,s4.2 ⟨dj (by omega),dj (by omega)⟩]
 rfl
end
theorem cap {a b m:Nat} (h:a+b≤10000000) (hm:m≤1000):Nat.ble ((a+b)*m) bU=true:=by
 rw[dx,ki]
 have:=Nat.mul_le_mul h hm
 omega
theorem afR {n m:Nat} (h:n≤10000000) (hm:m≤1000):((decide (0≤(n:Int)))&&((decide ((n:Int)≤(n:Int)))&&(Nat.ble (((n:Int).toNat)*m) bU)))=true:=by
 have U:=Nat.mul_le_mul h hm
 rw[Int.toNat_natCast]
 refine s4.2 ⟨dj (by omega),s4.2 ⟨dj (by omega),?_⟩⟩
 rw[dx,ki]
 omega
theorem lS {i:Nat} (h:i≤1000000000):IntKind.wrap .i64 ((i:Int)+1)=((i+1:Nat):Int):=by rw[wrap64 (by omega) (by omega)];omega
theorem oO {i n:Nat} (h:i<n):decide ((i:Int)<(n:Int))=true:=dj (by omega)
end Go.AM
set_option maxRecDepth 100000
namespace Go.AM
open Go.Proofs Ex
def oneOf (o:Int):List Ex→Ex
 | [k]=>k
 | l=> .node o 0 l
mutual
def bG (c:Int):Ex→Ex
 | .node o l ks=>
  if o=3 then (if l=c then ji else ek)
  else if o=4∨o=6∨o=8 then .node o 0 (xX c ks)
  else if o=7 then .node 5 0 [(xX c ks).getD 0 ba,.node o l ks]
  else if o=5 then oneOf 4 (gX c ks)
  else ek
def xX (c:Int):List Ex→List Ex
 | []=>[]
 | k::ks=>bG c k::xX c ks
def gX (c:Int):List Ex→List Ex
 | []=>[]
 | k::ks=>oneOf 5 (bG c k::ks)::(if k.cK=true then gX c ks else [])
end
theorem TR {c:Int}: ∀ks,xX c ks=ks.map (bG c)
 | []=>by simp only[xX,fR]
 | k::ks=>by simp only[xX,cz,TR ks]
theorem nM {c o l:Int} {ks:List Ex}:bG c (.node o l ks)=if o=3 then (if l=c then ji else ek) else if o=4∨o=6∨o=8 then .node o 0 (ks.map (bG c)) else if o=7 then .node 5 0 [(ks.map (bG c)).getD 0 ba,.node o l ks] else if o=5 then oneOf 4 (gX c ks) else ek:=by
 rw[bG,TR]
theorem xY {c:Int} {k:Ex} {ks:List Ex}:gX c (k::ks)=oneOf 5 (bG c k::ks)::(if k.cK=true then gX c ks else []):=by rw[gX]
theorem afS {o:Int} {k:Ex} {l:List Ex}:oneOf o (k::l)=if l=[] then k else .node o 0 (k::l):=by
 cases l with
 | nil=>rfl
 | cons x l=>rw[ai (by simp)];rfl
theorem TS {n:Int}:ek.wf n=true:=uF (by simp[dJ]) (by simp)
theorem afT {n:Int}:ji.wf n=true:=uF (by simp[dJ]) (by simp)
theorem afU {n o l len:Int} (h:dJ o l len n=true) (ho:o=4∨o=6∨o=8):dJ o 0 len n=true:=by
 rcases ew h with h|⟨rfl,h⟩
 ·omega
 ·assumption
theorem TT {n:Int} {o:Int} (ho:o=4∨o=5) {len:Int} (h:2≤len):dJ o 0 len n=true:=by
 unfold dJ
 rcases ho with rfl|rfl<;>simp[h]
theorem TU {n:Int} {o:Int} (ho:o=4∨o=5) {l:List Ex} (hl:l≠[]) (h: ∀k∈l,k.wf n=true):(oneOf o l).wf n=true:=by
 match l,hl with
 | [k],_=>exact h k (by simp)
 | k::k2::l,_=>exact uF (TT ho (by simp only[List.length_cons];omega)) h
theorem TV {c:Int} {ks:List Ex} (h:ks≠[]):gX c ks≠[]:=by
 cases ks with
 | nil=>exact absurd rfl h
 | cons k ks=>rw[xY];simp
theorem FZ {n c:Int}: ∀{ks:List Ex},(∀k∈ks,k.wf n=true)→(∀k∈ks,(bG c k).wf n=true)→∀x∈gX c ks,x.wf n=true
 | [],_,_,x,hx=>by rw[gX] at hx;cases hx
 | k::ks,h1,U,x,hx=>by
  rw[xY] at hx
  rcases di.1 hx with rfl|hx
  ·refine TU (.inr rfl) (by simp) fun y hy=> ?_
   rcases di.1 hy with rfl|hy
   ·exact U k (by simp)
   ·exact h1 y (by simp[hy])
  ·split at hx
   ·exact FZ (fun y hy=>h1 y (by simp[hy])) (fun y hy=>U y (by simp[hy])) x hx
   ·cases hx
theorem sI {n c:Int}: ∀e:Ex,e.wf n=true→(bG c e).wf n=true:=ind fun o l ks ih hw=>by
 obtain ⟨h1,U⟩:=gA hw
 have hk: ∀k∈ks,(bG c k).wf n=true:=fun k hk=>ih k hk (U k hk)
 rw[nM]
 split
 ·split
  ·exact afT
  ·exact TS
 split
 ·next _ ho=>
  refine uF (by rw[aP];exact afU h1 ho) fun x hx=> ?_
  obtain ⟨k,mo,rfl⟩:=gh.1 hx
  exact hk k mo
 split
 ·next _ _ ho=>
  subst ho
  have hl:ks.length=1:=by rcases ew h1 with h|⟨_,h|h|h|h|h|h|h⟩<;>omega
  obtain ⟨k,rfl⟩:=vi.1 hl
  refine uF (TT (.inr rfl) (by simp)) fun x hx=> ?_
  rcases di.1 hx with rfl|hx
  ·exact hk k (by simp)
  ·rw[en.1 hx];exact hw
 split
 ·next _ _ _ ho=>
  subst ho
  have hl:2≤ks.length:=by rcases ew h1 with h|⟨_,h|h|h|h|h|h|h⟩<;>omega
  exact TU (.inl rfl) (TV (by intro h;rw[h] at hl;simp at hl)) (FZ U hk)
 ·exact TS
theorem TW {o:Int} {l:List Ex}:(oneOf o l).size≤1+aJ l:=by
 match l with
 | []=>simp[oneOf,size,aJ]
 | [k]=>simp[oneOf,aJ]
 | k::k2::l=>simp[oneOf,size]
theorem LG {f:Ex→Ex}: ∀{ks:List Ex},(∀k∈ks,(f k).size≤k.size*k.size)→aJ (ks.map f)≤aJ ks*aJ ks
 | [],_=>by simp[aJ]
 | k::ks,h=>by
  have ih:=LG (f:=f) (ks:=ks) fun x hx=>h x (by simp[hx])
  have hk:=h k (by simp)
  simp only[cz,aJ,dh,Nat.mul_add]
  omega
theorem LH {c:Int}: ∀{ks:List Ex},(∀k∈ks,(bG c k).size≤k.size*k.size)→1+aJ (gX c ks)≤(1+aJ ks)*(1+aJ ks)
 | [],_=>by rw[gX];simp[aJ]
 | k::ks,h=>by
  have ih:=LH (c:=c) (ks:=ks) fun x hx=>h x (by simp[hx])
  have hk:=h k (by simp)
  have h1:(oneOf 5 (bG c k::ks)).size≤1+((bG c k).size+aJ ks):=TW
  have hp:=k.size_pos
  have U:aJ (if k.cK=true then gX c ks else [])≤aJ (gX c ks):=by
   split
   ·exact bY _
   ·simp[aJ]
  have h3:1*aJ ks≤k.size*aJ ks:=dC _ hp
  have h4:aJ ks*k.size=k.size*aJ ks:=nR _ _
  rw[xY]
  simp only[aJ,dh,Nat.mul_add] at*
  omega
theorem LI {c:Int}: ∀e:Ex,(∀n,e.wf n=true→(bG c e).size≤e.size*e.size):=ind fun o l ks ih n hw=>by
 obtain ⟨h1,U⟩:=gA hw
 have hk: ∀k∈ks,(bG c k).size≤k.size*k.size:=fun k hk=>ih k hk n (U k hk)
 have h3:1*1≤(Ex.node o l ks).size*(Ex.node o l ks).size:=Nat.mul_le_mul (size_pos _) (size_pos _)
 rw[nM]
 split
 ·split
  ·exact h3
  ·exact h3
 split
 ·have:=LG hk
  simp only[size,dh,Nat.mul_add] at*
  omega
 split
 ·next _ _ ho=>
  subst ho
  have hl:ks.length=1:=by rcases ew h1 with h|⟨_,h|h|h|h|h|h|h⟩<;>omega
  obtain ⟨k,rfl⟩:=vi.1 hl
  have:=hk k (by simp)
  have hp:=k.size_pos
  simp only[cz,fR,yM,size,aJ,dh,Nat.mul_add,Nat.add_zero] at*
  omega
 split
 ·have h4:=LH hk
  have h5:(oneOf 4 (gX c ks)).size≤1+aJ (gX c ks):=TW
  show _≤(1+aJ ks)*(1+aJ ks)
  omega
 ·exact h3
section
variable {n c:Int}
theorem afV {o l:Int} {ks:List Ex} (ho:o=4∨o=6∨o=8):aH (bG c (.node o l ks))=dK o 0 (ks.map fun k=>aH (bG c k)):=by
 rw[nM,ai (by omega),aj ho,lO,List.map_map]
 rfl
theorem afW {l:Int} {k:Ex}:aH (bG c (.node 7 l [k]))=dK 5 0 [aH (bG c k),aH (.node 7 l [k])]:=by
 rw[nM,ai (by omega),ai (by omega),aj rfl,lO]
 rfl
def F0 (c:Int) (k:Ex) (ks:List Ex):Ex:=if (aH (bG c k)).op=1 then aH (bG c k) else dK 5 0 (aH (bG c k)::ks.map aH)
theorem afX {k:Ex} {ks:List Ex} (hk:k.wf n=true) (aU: ∀x∈ks,x.wf n=true):F0 c k ks=aH (oneOf 5 (bG c k::ks)):=by
 have hg:=lP (n:=n) _ (sI (c:=c) k hk)
 unfold F0
 rw[afS]
 by_cases hn:ks=[]
 ·subst hn
  rw[aj rfl,fR,adm hg]
  split<;>rfl
 ·rw[ai hn,lO,cz]
  by_cases h1:(aH (bG c k)).op=1
  ·rw[aj h1,sw,aj,empty_eq hg h1]
   have DM: ∀x∈aH (bG c k)::ks.map aH,Gd n x:=fun x hx=>by
    rcases di.1 hx with rfl|hx
    ·exact hg
    ·obtain ⟨y,hy,rfl⟩:=gh.1 hx
     exact lP y (aU y hy)
   rw[K3 DM]
   simp[h1]
  ·rw[ai h1]
def sJ (c:Int):List Ex→List Ex
 | []=>[]
 | k::ks=>F0 c k ks::(if k.cK=true then sJ c ks else [])
theorem parts_eq: ∀{ks:List Ex},(∀x∈ks,x.wf n=true)→sJ c ks=(gX c ks).map aH
 | [],_=>by rw[gX];rfl
 | k::ks,h=>by
  have ih:=parts_eq (ks:=ks) fun x hx=>h x (by simp[hx])
  rw[xY,cz,←afX (h k (by simp)) (fun x hx=>h x (by simp[hx]))]
  unfold sJ
  refine congrArg _ ?_
  split
  ·exact ih
  ·rfl
theorem afY {l:Int} {ks:List Ex} (bC:ks≠[]) (hk: ∀x∈ks,x.wf n=true):aH (bG c (.node 5 l ks))=dK 4 0 (sJ c ks):=by
 rw[nM,ai (by omega),ai (by omega),ai (by omega),aj rfl,parts_eq hk]
 have hw:=FZ (c:=c) hk fun k mo=>sI k (hk k mo)
 have hn:=TV (c:=c) bC
 generalize gX c ks=L at*
 match L,hn with
 | [x],_=>exact (adl (lP x (hw x (by simp)))).symm
 | x::y::L,_=>
  show aH (.node 4 0 _)=_
  rw[lO]
end
end Go.AM
set_option maxRecDepth 100000
namespace Go.AM
open Go.Proofs
noncomputable def TY (C:ag) (dY:Int) (dZ:Bool) (af aq:Int) (ae:List V):Option (List V):=
 bif dZ then
  some [.int .i64 af,.int .i64 aq,.list aa ae]
 else
  (C uk [.int .i64 af,.int .i64 aq,.list aa ae]).bind fun r1=>
  some [.int .i64 ((V.nth r1 0).toInt),.int .i64 ((V.nth (r1.drop 1) 0).toInt),.list aa ((V.nth ((r1.drop 1).drop 1) 0).toList)]
theorem afZ {dY:Int} {dZ:Bool} {af aq:Int} {ae:List V} {r:Option (List V)} (h:TY CC dY dZ af aq ae=r):CC Ao [.int .i64 dY,.bool dZ,.int .i64 af,.int .i64 aq,.list aa ae]=r:=
 a9 (key:=83) (L:=cm) (bs:=[]) (by kernel_rfl) ax (aZ (by kernel_rfl) h)
noncomputable abbrev TZ:Code:=cC Try.prog (ay.aT 68)
noncomputable def Bz (C:ag) (t21:List V) (t22 oP:Int) (oQ:Bool) (dA c7:Int) (cF:List V) (fO fP qZ q0:Int) (ra:Bool) (eb eH:List V) (BA t23:Int) (lT fy:List V) {β:Type} (kn:(Int × Int × (List V) × (List V))→Option β) (kr:(Int × Int × Bool × (List V) × (List V))→Option β):Option β:=
 bif decide ((t23:Int)<t22) then
  (idx t21 t23).bind fun x1=>
  (C oB [.int .i64 oP,.bool oQ,.int .i64 ((x1.cell 0).toInt),.int .i64 ((x1.cell 1).toInt),.list aa ((x1.cell 2).toList)]).bind fun r2=>
  bif (decide (0≤t23))&&(decide (t23<(lT.length:Int))) then
  (lT[(t23:Int).toNat]?).bind fun x3=>
  bif (decide (0≤t23))&&(decide (t23<(fy.length:Int))) then
   (fy[(t23:Int).toNat]?).bind fun x4=>
   bif (V.nth ((((((r2.drop 1).drop 1).drop 1).drop 1).drop 1).drop 1) 0).toBool then
   kn (IntKind.wrap .i64 (BA+1),IntKind.wrap .i64 (t23+1),lT.set ((t23:Int).toNat) (.agg [.int .i64 ((V.nth r2 0).toInt),.int .i64 ((V.nth (r2.drop 1) 0).toInt),.list aa ((V.nth ((r2.drop 1).drop 1) 0).toList)]),fy.set ((t23:Int).toNat) (.agg [.int .i64 ((V.nth (((r2.drop 1).drop 1).drop 1) 0).toInt),.int .i64 ((V.nth ((((r2.drop 1).drop 1).drop 1).drop 1) 0).toInt),.list aa ((V.nth (((((r2.drop 1).drop 1).drop 1).drop 1).drop 1) 0).toList)]))
   else
   kn (BA,IntKind.wrap .i64 (t23+1),lT.set ((t23:Int).toNat) (.agg [.int .i64 ((V.nth r2 0).toInt),.int .i64 ((V.nth (r2.drop 1) 0).toInt),.list aa ((V.nth ((r2.drop 1).drop 1) 0).toList)]),fy.set ((t23:Int).toNat) (.agg [.int .i64 ((V.nth (((r2.drop 1).drop 1).drop 1) 0).toInt),.int .i64 ((V.nth ((((r2.drop 1).drop 1).drop 1).drop 1) 0).toInt),.list aa ((V.nth (((((r2.drop 1).drop 1).drop 1).drop 1).drop 1) 0).toList)]))
  else none
  else none
 else
  kr (BA,t23,decide ((t23:Int)<t22),lT,fy)
noncomputable def F1 (C:ag) (t21:List V) (t22 oP:Int) (oQ:Bool) (dA c7:Int) (cF:List V) (fO fP qZ q0:Int) (ra:Bool) (eb eH:List V):(Int × Int × (List V) × (List V))→Option ((Int × Int × (List V) × (List V)) ⊕ (Int × Int × Bool × (List V) × (List V))):=un fun BA=>un fun t23=>un fun lT fy=>Bz C t21 t22 oP oQ dA c7 cF fO fP qZ q0 ra eb eH BA t23 lT fy (fun y=>some (.inl y)) (fun r=>some (.inr r))
noncomputable def T2 (C:ag):cp:=fun β n ds k=>
 bif Nat.beq n 65 then bW JL [true,false,false,true,false,false,false,false,false,false,false,false,false,false,true,true,false,false] [[0,2,3,0,0,5,6,7,8,9,10,11,12,13,14,0,0,17,18]] (@Bz C) ds k else
 none
abbrev af0 (C:ag) (b:cj):Prop:=cl Try.prog ay C (T2 C) 68 (cH Try.prog (ay.aT 68)) (ay.sin 68).bc.length b
theorem af1 (C:ag):af0 C (.loop (aw [1,1,1,0,1,0,0] TZ)):=
 ca JL [true,false,false,true,false,false,false,false,false,false,false,false,false,false,true,true,false,false] [[0,2,3,0,0,5,6,7,8,9,10,11,12,13,14,0,0,17,18]] (@Bz C) (by kernel_rfl) (bf (bs:=[]) (by kernel_rfl) ax) (fun ds=>by kernel_rfl) (fun i x=>by kernel_rfl) (fun i x β k=>by kernel_rfl) (fun β ds k=>by kernel_rfl)
noncomputable def T4 (C:ag) (dY:Int) (dZ:Bool) (af aq:Int) (ae:List V):Option (List V):=
 bif (decide (0≤(ae.length:Int)))&&((decide ((ae.length:Int)≤(ae.length:Int)))&&(Nat.ble ((((ae.length:Int):Int).toNat)*40) bU)) then
  bif (decide (0≤(ae.length:Int)))&&((decide ((ae.length:Int)≤(ae.length:Int)))&&(Nat.ble ((((ae.length:Int):Int).toNat)*40) bU)) then
  (Loop (F1 C ae (ae.length:Int) dY dZ af aq ae 0 0 0 0 false ([]:List V) ([]:List V)) (0,0,List.replicate (((ae.length:Int):Int).toNat) (V.agg [.int .i64 0,.int .i64 0,.list aa ([]:List V)]),List.replicate (((ae.length:Int):Int).toNat) (V.agg [.int .i64 0,.int .i64 0,.list aa ([]:List V)]))).bind (un fun (LJ:Int)=>un fun (jD:Int)=>un fun (pF:Bool)=>un fun (af2:List V) (af3:List V)=>
   (C kh [.int .i64 af,.list aa af2]).bind fun cT=>
   (C kh [.int .i64 af,.list aa af3]).bind fun dM=>
   bif (af:Int)==4 then
    some [.int .i64 ((V.nth cT 0).toInt),.int .i64 ((V.nth (cT.drop 1) 0).toInt),.list aa ((V.nth ((cT.drop 1).drop 1) 0).toList),.int .i64 ((V.nth dM 0).toInt),.int .i64 ((V.nth (dM.drop 1) 0).toInt),.list aa ((V.nth ((dM.drop 1).drop 1) 0).toList),.bool (decide ((LJ:Int)>0))]
   else
    bif (af:Int)==6 then
    some [.int .i64 ((V.nth cT 0).toInt),.int .i64 ((V.nth (cT.drop 1) 0).toInt),.list aa ((V.nth ((cT.drop 1).drop 1) 0).toList),.int .i64 ((V.nth dM 0).toInt),.int .i64 ((V.nth (dM.drop 1) 0).toInt),.list aa ((V.nth ((dM.drop 1).drop 1) 0).toList),.bool ((LJ:Int)==(ae.length:Int))]
    else
    bif (af:Int)==8 then
     some [.int .i64 ((V.nth cT 0).toInt),.int .i64 ((V.nth (cT.drop 1) 0).toInt),.list aa ((V.nth ((cT.drop 1).drop 1) 0).toList),.int .i64 ((V.nth dM 0).toInt),.int .i64 ((V.nth (dM.drop 1) 0).toInt),.list aa ((V.nth ((dM.drop 1).drop 1) 0).toList),.bool ((LJ:Int)==0)]
    else
     some [.int .i64 ((V.nth cT 0).toInt),.int .i64 ((V.nth (cT.drop 1) 0).toInt),.list aa ((V.nth ((cT.drop 1).drop 1) 0).toList),.int .i64 ((V.nth dM 0).toInt),.int .i64 ((V.nth (dM.drop 1) 0).toInt),.list aa ((V.nth ((dM.drop 1).drop 1) 0).toList),.bool false])
  else none
 else none
theorem af4 {dY:Int} {dZ:Bool} {af aq:Int} {ae:List V} {r:Option (List V)} (h:T4 CC dY dZ af aq ae=r):CC wP [.int .i64 dY,.bool dZ,.int .i64 af,.int .i64 aq,.list aa ae]=r:=
 a9 (key:=68) (L:=T2 CC) (bs:=[.loop (aw [1,1,1,0,1,0,0] TZ)]) (by kernel_rfl) (bA (af1 CC) ax) (aZ (by kernel_rfl) h)
end Go.AM
