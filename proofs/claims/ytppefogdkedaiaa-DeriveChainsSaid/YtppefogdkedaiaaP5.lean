/-
  Functions of the program, lifted to plain data.
-/
import Derived.Sort.AssemblyPlain
import Derived.Test.YtppefogdkedaiaaP4
set_option linter.unusedVariables false
set_option linter.unusedSimpArgs false
set_option maxRecDepth 100000
namespace Go.AM
open Go.Proofs Go.Sort
section
variable {α:Type} {enc:α→V}
def o9 (enc:α→V) (d:Array α):List V:=d.toList.map enc
theorem fv (d:Array α):(o9 enc d).length=d.size:=by simp[o9]
theorem fw (d:Array α) (i:Nat) (x:α):(o9 enc d).set i (enc x)=o9 enc (d.setIfInBounds i x):=by
 unfold o9;rw[Array.toList_setIfInBounds,xx]
variable [Inhabited α]
theorem fx {d:Array α} {i:Nat} (h:i<d.size):(o9 enc d)[i]? =some (enc d[i]!):=by
 unfold o9;rw[gl,qL,j4 h,getElem!_pos d i h];rfl
theorem hO {d:Array α} {i j:Nat} {x:α} (h:i<d.size):(o9 enc (d.setIfInBounds j x))[i]? =some (enc (d.setIfInBounds j x)[i]!):=fx (by rw[gn];exact h)
theorem fy (a b:Nat):(a:Int)+(b:Int)=((a+b:Nat):Int):=(Int.natCast_add a b).symm
theorem dy (a:Nat):(a:Int)+1=((a+1:Nat):Int):=rfl
theorem tS (a:Nat):((a+1:Nat):Int)-1=(a:Int):=by omega
theorem zW (a:Nat):(a:Int)*2=((a*2:Nat):Int):=by omega
theorem mc {a b:Nat} (h:b≤a):(a:Int)-(b:Int)=((a-b:Nat):Int):=by omega
theorem jS {a:Nat} (h:1≤a):(a:Int)-1=((a-1:Nat):Int):=by omega
theorem divC (a b:Nat):Int.tdiv (a:Int) (b:Int)=((a/b:Nat):Int):=by rw[Int.tdiv_eq_ediv_of_nonneg (by omega)];rfl
theorem mX {p:Prop} [Decidable p] (h:p):decide p=true:=eg h
theorem rM {p:Prop} [Decidable p] (h: ¬p):decide p=false:=cS h
variable {lt:α→α→Bool}
theorem QJ (a j:Nat) (d:Array α):insInner lt a (j+1) d=if j+1>a&&lt d[j+1]! d[j]! then insInner lt a j (swp d (j+1) j) else d:=rfl
theorem Jw {a:Nat}: ∀(j:Nat) (d:Array α),(insInner lt a j d).size=d.size
 | 0,d=>rfl
 | j+1,d=>by
  rw[QJ]
  split
  ·rw[Jw j,size_swp]
  ·rfl
theorem zX (hi first:Nat): ∀(n root:Nat) (d:Array α),hi-root≤n→(siftDown lt hi first root d).size=d.size:=by
 intro n
 induction n with
 | zero=>intro root d h;rw[siftDown,qG (by omega)]
 | succ n ih=>
  intro root d h
  rw[siftDown]
  split
  ·rfl
  ·split
   ·split
    ·rfl
    ·split
     ·rw[ih _ _ (by omega),size_swp]
     ·rfl
   ·split
    ·rfl
    ·rw[ih _ _ (by omega),size_swp]
theorem Jx (hi first:Nat): ∀(k:Nat) (d:Array α),(heapBuild lt hi first k d).size=d.size
 | 0,d=>rfl
 | k+1,d=>by rw[heapBuild,Jx,zX _ _ _ _ _ (b7 _)]
end
end Go.AM
set_option maxRecDepth 100000
namespace Go.AM.SX
open Go.Proofs Ex
structure XE where
 e:Ex
 ok:e.Ok
instance:Inhabited XE:=⟨⟨.node 0 0 [],.node (by omega) (by omega) (by simp) (by simp)⟩⟩
namespace XE
def enc (x:XE):V:=x.e.enc
theorem br (x:XE):(x.enc.cell 0).toInt=x.e.op:=Go.AM.br x.e
theorem bt (x:XE):(x.enc.cell 1).toInt=x.e.cp:=Go.AM.bt x.e
theorem bu (x:XE):(x.enc.cell 2).toList=x.e.kids.map Ex.enc:=Go.AM.bu x.e
theorem re (x:XE):V.agg [.int .i64 x.e.op,.int .i64 x.e.cp,.list aa (x.e.kids.map Ex.enc)]=x.enc:=(Ex.eu x.e).symm
end XE
def bN (a b:XE):Int:=cmp a.e b.e
theorem gf (a b:XE):CC a8 [.int .i64 a.e.op,.int .i64 a.e.cp,.list aa (a.e.kids.map Ex.enc),.int .i64 b.e.op,.int .i64 b.e.cp,.list aa (b.e.kids.map Ex.enc)]=some [.int .i64 (bN a b)]:=
 PN a.e a.ok b.e b.ok
def XE.lt (a b:XE):Prop:=bN a b<0
theorem XE.lt_irrefl (a:XE): ¬a.lt a:=by unfold XE.lt bN;rw[zF];omega
theorem abW {a b c:Ex} (h1:cmp a b<0) (U:cmp b c<0):cmp a c<0:=by
 have h3:=I5 a b c (by omega) (by omega)
 refine Decidable.byContradiction fun h=> ?_
 have h0:cmp a c=0:=by omega
 have:=tJ a c h0
 subst this
 have:=rI a b
 omega
theorem XE.lt_trans {a b c:XE} (h1:a.lt b) (U:b.lt c):a.lt c:=abW h1 U
theorem XE.abY {a b c:XE} (h1: ¬a.lt b) (U: ¬b.lt c): ¬a.lt c:=by
 unfold XE.lt bN at*
 have a1:=rI a.e b.e
 have a2:=rI b.e c.e
 have a3:=rI a.e c.e
 have:=I5 c.e b.e a.e (by omega) (by omega)
 omega
end Go.AM.SX
set_option maxRecDepth 100000
namespace Go.AM
open Go.Proofs
noncomputable abbrev Ei:Code:=cK Try.prog (az.aZ 111)
noncomputable def wE (C:ag) (a b' i j:Int) (ak:List V) {β:Type} (kn:(Int × (List V))→Option β) (kr:(Int × Bool × (List V))→Option β):Option β:=
 bif decide ((j:Int)>a) then
  bif (decide (0≤j))&&(decide (j<(ak.length:Int))) then
  (ak[(j:Int).toNat]?).bind fun x1=>
  bif (decide (0≤(IntKind.wrap .i64 (j-1))))&&(decide ((IntKind.wrap .i64 (j-1))<(ak.length:Int))) then
   (ak[(IntKind.wrap .i64 (j-1):Int).toNat]?).bind fun x2=>
   (C a8 [.int .i64 ((x1.cell 0).toInt),.int .i64 ((x1.cell 1).toInt),.list aa ((x1.cell 2).toList),.int .i64 ((x2.cell 0).toInt),.int .i64 ((x2.cell 1).toInt),.list aa ((x2.cell 2).toList)]).bind fun r3=>
   bif decide ((((V.nth r3 0).toInt):Int)<0) then
   bif (decide (0≤(IntKind.wrap .i64 (j-1))))&&(decide ((IntKind.wrap .i64 (j-1))<(ak.length:Int))) then
    (ak[(IntKind.wrap .i64 (j-1):Int).toNat]?).bind fun x4=>
    bif (decide (0≤j))&&(decide (j<(ak.length:Int))) then
    (ak[(j:Int).toNat]?).bind fun x5=>
    bif (decide (0≤j))&&(decide (j<(ak.length:Int))) then
     (ak[(j:Int).toNat]?).bind fun x6=>
     bif (decide (0≤(IntKind.wrap .i64 (j-1))))&&(decide ((IntKind.wrap .i64 (j-1))<((ak.set ((j:Int).toNat) (.agg [.int .i64 ((x4.cell 0).toInt),.int .i64 ((x4.cell 1).toInt),.list aa ((x4.cell 2).toList)])).length:Int))) then
     ((ak.set ((j:Int).toNat) (.agg [.int .i64 ((x4.cell 0).toInt),.int .i64 ((x4.cell 1).toInt),.list aa ((x4.cell 2).toList)]))[(IntKind.wrap .i64 (j-1):Int).toNat]?).bind fun x7=>
     kn (IntKind.wrap .i64 (j-1),(ak.set ((j:Int).toNat) (.agg [.int .i64 ((x4.cell 0).toInt),.int .i64 ((x4.cell 1).toInt),.list aa ((x4.cell 2).toList)])).set ((IntKind.wrap .i64 (j-1):Int).toNat) (.agg [.int .i64 ((x5.cell 0).toInt),.int .i64 ((x5.cell 1).toInt),.list aa ((x5.cell 2).toList)]))
     else none
    else none
    else none
   else none
   else
   kr (j,decide ((((V.nth r3 0).toInt):Int)<0),ak)
  else none
  else none
 else
  kr (j,false,ak)
noncomputable def wF (C:ag) (a b' i:Int):(Int × (List V))→Option ((Int × (List V)) ⊕ (Int × Bool × (List V))):=un fun j ak=>wE C a b' i j ak (fun y=>some (.inl y)) (fun r=>some (.inr r))
noncomputable def zY (C:ag) (a b' i:Int) (ak:List V) {β:Type} (kn:(Int × (List V))→Option β) (kr:(Int × Bool × (List V))→Option β):Option β:=
 bif decide ((i:Int)<b') then
  (Loop (wF C a b' i) (i,ak)).bind (un fun (j_8:Int)=>un fun (rF:Bool) (oe:List V)=>
   kn (IntKind.wrap .i64 (i+1),oe))
 else
  kr (i,decide ((i:Int)<b'),ak)
noncomputable def Ej (C:ag) (a b':Int):(Int × (List V))→Option ((Int × (List V)) ⊕ (Int × Bool × (List V))):=un fun i ak=>zY C a b' i ak (fun y=>some (.inl y)) (fun r=>some (.inr r))
noncomputable def QK (C:ag):cz:=fun β n ds k=>
 bif Nat.beq n 65 then cl Ir [false,false,false,true,true] [[1,2,3,0,0,0]] (@wE C) ds k else
 bif Nat.beq n 17 then cl Is [false,false,true,true] [[1,2,0,0,0]] (@zY C) ds k else
 none
abbrev QL (C:ag) (b:cw):Prop:=cx Try.prog az C (QK C) 111 (cN Try.prog (az.aZ 111)) (az.sin 111).a9.length b
theorem abZ (C:ag):QL C (.loop (ax [1,0,0,1,0,0,1,0,0] Ei)):=
 cy Ir [false,false,false,true,true] [[1,2,3,0,0,0]] (@wE C) (by kernel_rfl) (bh (bs:=[]) (by kernel_rfl) aw) (fun ds=>by kernel_rfl) (fun i x=>by kernel_rfl) (fun i x β k=>by kernel_rfl) (fun β ds k=>by kernel_rfl)
theorem ab0 (C:ag):QL C (.loop (ax [1,0,0] Ei)):=
 cy Is [false,false,true,true] [[1,2,0,0,0]] (@zY C) (by kernel_rfl) (bh (bs:=[.loop (ax [1,0,0,1,0,0,1,0,0] Ei)]) (by kernel_rfl) (bH (abZ C) aw)) (fun ds=>by kernel_rfl) (fun i x=>by kernel_rfl) (fun i x β k=>by kernel_rfl) (fun β ds k=>by kernel_rfl)
noncomputable def QM (C:ag) (a b':Int) (ak:List V):Option (List V):=
 (Loop (Ej C a b') (IntKind.wrap .i64 (a+1),ak)).bind (un fun (ahv:Int)=>un fun (IZ:Bool) (Jy:List V)=>
  some [.list aa Jy])
theorem ab1 {a b':Int} {ak:List V} {r:Option (List V)} (h:QM CC a b' ak=r):CC zf [.int .i64 a,.int .i64 b',.list aa ak]=r:=
 ba (key:=111) (L:=QK CC) (bs:=[.loop (ax [1,0,0] Ei)]) (by kernel_rfl) (bH (ab0 CC) aw) (aX (by kernel_rfl) h)
noncomputable abbrev wG:Code:=cK Try.prog (az.aZ 121)
noncomputable def tT (C:ag) (hi first root child:Int) (t40:Bool) (ak:List V) {β:Type} (kr:(Int)→Option β):Option β:=
 bif t40 then
  kr (IntKind.wrap .i64 (child+1))
 else
  kr child
noncomputable def rN (C:ag) (hi first root:Int) (ak:List V) {β:Type} (kn:(Int × (List V))→Option β) (kr:((Int × Int × Bool × (List V)) ⊕ (Int × Int × Bool × (List V)))→Option β):Option β:=
 bif decide (((IntKind.wrap .i64 ((IntKind.wrap .i64 (root*2))+1)):Int)≥hi) then
  kr (.inl (root,IntKind.wrap .i64 ((IntKind.wrap .i64 (root*2))+1),decide (((IntKind.wrap .i64 ((IntKind.wrap .i64 (root*2))+1)):Int)≥hi),ak))
 else
  bif decide (((IntKind.wrap .i64 ((IntKind.wrap .i64 ((IntKind.wrap .i64 (root*2))+1))+1)):Int)<hi) then
  bif (decide (0≤(IntKind.wrap .i64 (first+(IntKind.wrap .i64 ((IntKind.wrap .i64 (root*2))+1))))))&&(decide ((IntKind.wrap .i64 (first+(IntKind.wrap .i64 ((IntKind.wrap .i64 (root*2))+1))))<(ak.length:Int))) then
   (ak[(IntKind.wrap .i64 (first+(IntKind.wrap .i64 ((IntKind.wrap .i64 (root*2))+1))):Int).toNat]?).bind fun x1=>
   bif (decide (0≤(IntKind.wrap .i64 ((IntKind.wrap .i64 (first+(IntKind.wrap .i64 ((IntKind.wrap .i64 (root*2))+1))))+1))))&&(decide ((IntKind.wrap .i64 ((IntKind.wrap .i64 (first+(IntKind.wrap .i64 ((IntKind.wrap .i64 (root*2))+1))))+1))<(ak.length:Int))) then
   (ak[(IntKind.wrap .i64 ((IntKind.wrap .i64 (first+(IntKind.wrap .i64 ((IntKind.wrap .i64 (root*2))+1))))+1):Int).toNat]?).bind fun x2=>
   (C a8 [.int .i64 ((x1.cell 0).toInt),.int .i64 ((x1.cell 1).toInt),.list aa ((x1.cell 2).toList),.int .i64 ((x2.cell 0).toInt),.int .i64 ((x2.cell 1).toInt),.list aa ((x2.cell 2).toList)]).bind fun r3=>
   tT C hi first root (IntKind.wrap .i64 ((IntKind.wrap .i64 (root*2))+1)) (decide ((((V.nth r3 0).toInt):Int)<0)) ak (fun (mY:Int)=>
    bif (decide (0≤(IntKind.wrap .i64 (first+root))))&&(decide ((IntKind.wrap .i64 (first+root))<(ak.length:Int))) then
     (ak[(IntKind.wrap .i64 (first+root):Int).toNat]?).bind fun x5=>
     bif (decide (0≤(IntKind.wrap .i64 (first+mY))))&&(decide ((IntKind.wrap .i64 (first+mY))<(ak.length:Int))) then
     (ak[(IntKind.wrap .i64 (first+mY):Int).toNat]?).bind fun x6=>
     (C a8 [.int .i64 ((x5.cell 0).toInt),.int .i64 ((x5.cell 1).toInt),.list aa ((x5.cell 2).toList),.int .i64 ((x6.cell 0).toInt),.int .i64 ((x6.cell 1).toInt),.list aa ((x6.cell 2).toList)]).bind fun r7=>
     bif !(decide ((((V.nth r7 0).toInt):Int)<0)) then
      kr (.inr (root,mY,!(decide ((((V.nth r7 0).toInt):Int)<0)),ak))
     else
      bif (decide (0≤(IntKind.wrap .i64 (first+mY))))&&(decide ((IntKind.wrap .i64 (first+mY))<(ak.length:Int))) then
      (ak[(IntKind.wrap .i64 (first+mY):Int).toNat]?).bind fun x8=>
      bif (decide (0≤(IntKind.wrap .i64 (first+root))))&&(decide ((IntKind.wrap .i64 (first+root))<(ak.length:Int))) then
       (ak[(IntKind.wrap .i64 (first+root):Int).toNat]?).bind fun x9=>
       bif (decide (0≤(IntKind.wrap .i64 (first+root))))&&(decide ((IntKind.wrap .i64 (first+root))<(ak.length:Int))) then
       (ak[(IntKind.wrap .i64 (first+root):Int).toNat]?).bind fun mZ=>
       bif (decide (0≤(IntKind.wrap .i64 (first+mY))))&&(decide ((IntKind.wrap .i64 (first+mY))<((ak.set ((IntKind.wrap .i64 (first+root):Int).toNat) (.agg [.int .i64 ((x8.cell 0).toInt),.int .i64 ((x8.cell 1).toInt),.list aa ((x8.cell 2).toList)])).length:Int))) then
        ((ak.set ((IntKind.wrap .i64 (first+root):Int).toNat) (.agg [.int .i64 ((x8.cell 0).toInt),.int .i64 ((x8.cell 1).toInt),.list aa ((x8.cell 2).toList)]))[(IntKind.wrap .i64 (first+mY):Int).toNat]?).bind fun eJ=>
        kn (mY,(ak.set ((IntKind.wrap .i64 (first+root):Int).toNat) (.agg [.int .i64 ((x8.cell 0).toInt),.int .i64 ((x8.cell 1).toInt),.list aa ((x8.cell 2).toList)])).set ((IntKind.wrap .i64 (first+mY):Int).toNat) (.agg [.int .i64 ((x9.cell 0).toInt),.int .i64 ((x9.cell 1).toInt),.list aa ((x9.cell 2).toList)]))
       else none
       else none
      else none
      else none
     else none
    else none)
   else none
  else none
  else
  tT C hi first root (IntKind.wrap .i64 ((IntKind.wrap .i64 (root*2))+1)) false ak (fun (m7:Int)=>
   bif (decide (0≤(IntKind.wrap .i64 (first+root))))&&(decide ((IntKind.wrap .i64 (first+root))<(ak.length:Int))) then
    (ak[(IntKind.wrap .i64 (first+root):Int).toNat]?).bind fun jt=>
    bif (decide (0≤(IntKind.wrap .i64 (first+m7))))&&(decide ((IntKind.wrap .i64 (first+m7))<(ak.length:Int))) then
    (ak[(IntKind.wrap .i64 (first+m7):Int).toNat]?).bind fun m8=>
    (C a8 [.int .i64 ((jt.cell 0).toInt),.int .i64 ((jt.cell 1).toInt),.list aa ((jt.cell 2).toList),.int .i64 ((m8.cell 0).toInt),.int .i64 ((m8.cell 1).toInt),.list aa ((m8.cell 2).toList)]).bind fun ln=>
    bif !(decide ((((V.nth ln 0).toInt):Int)<0)) then
     kr (.inr (root,m7,!(decide ((((V.nth ln 0).toInt):Int)<0)),ak))
    else
     bif (decide (0≤(IntKind.wrap .i64 (first+m7))))&&(decide ((IntKind.wrap .i64 (first+m7))<(ak.length:Int))) then
     (ak[(IntKind.wrap .i64 (first+m7):Int).toNat]?).bind fun gg=>
     bif (decide (0≤(IntKind.wrap .i64 (first+root))))&&(decide ((IntKind.wrap .i64 (first+root))<(ak.length:Int))) then
      (ak[(IntKind.wrap .i64 (first+root):Int).toNat]?).bind fun qs=>
      bif (decide (0≤(IntKind.wrap .i64 (first+root))))&&(decide ((IntKind.wrap .i64 (first+root))<(ak.length:Int))) then
      (ak[(IntKind.wrap .i64 (first+root):Int).toNat]?).bind fun wk=>
      bif (decide (0≤(IntKind.wrap .i64 (first+m7))))&&(decide ((IntKind.wrap .i64 (first+m7))<((ak.set ((IntKind.wrap .i64 (first+root):Int).toNat) (.agg [.int .i64 ((gg.cell 0).toInt),.int .i64 ((gg.cell 1).toInt),.list aa ((gg.cell 2).toList)])).length:Int))) then
       ((ak.set ((IntKind.wrap .i64 (first+root):Int).toNat) (.agg [.int .i64 ((gg.cell 0).toInt),.int .i64 ((gg.cell 1).toInt),.list aa ((gg.cell 2).toList)]))[(IntKind.wrap .i64 (first+m7):Int).toNat]?).bind fun pb=>
       kn (m7,(ak.set ((IntKind.wrap .i64 (first+root):Int).toNat) (.agg [.int .i64 ((gg.cell 0).toInt),.int .i64 ((gg.cell 1).toInt),.list aa ((gg.cell 2).toList)])).set ((IntKind.wrap .i64 (first+m7):Int).toNat) (.agg [.int .i64 ((qs.cell 0).toInt),.int .i64 ((qs.cell 1).toInt),.list aa ((qs.cell 2).toList)]))
      else none
      else none
     else none
     else none
    else none
   else none)
noncomputable def og (C:ag) (hi first:Int):(Int × (List V))→Option ((Int × (List V)) ⊕ ((Int × Int × Bool × (List V)) ⊕ (Int × Int × Bool × (List V)))):=un fun root ak=>rN C hi first root ak (fun y=>some (.inl y)) (fun r=>some (.inr r))
noncomputable def QN (C:ag):cz:=fun β n ds k=>
 bif Nat.beq n 655 then iB IQ [[1,2,3,0,6]] (@tT C) ds k else
 bif Nat.beq n 17 then cl IS [false,false,true,true] [[1,2,0,0,0,0],[1,2,0,0,0,0]] (@rN C) ds k else
 none
abbrev QO (C:ag) (b:cw):Prop:=cx Try.prog az C (QN C) 121 (cN Try.prog (az.aZ 121)) (az.sin 121).a9.length b
theorem ab2 (C:ag):QO C (.cond 40 (ax [1,0,0,0,1,1,0,1,0] wG) (ax [1,0,0,0,1,1,0,1,1] wG)):=
 iT IQ [[1,2,3,0,6]] (@tT C) (by kernel_rfl) (bh (bs:=[]) (by kernel_rfl) aw) (bh (bs:=[]) (by kernel_rfl) aw) (fun ds=>by kernel_rfl) (fun i β k=>by kernel_rfl) (fun β ds k=>by kernel_rfl)
theorem ab3 (C:ag):QO C (.loop (ax [1,0,0] wG)):=
 cy IS [false,false,true,true] [[1,2,0,0,0,0],[1,2,0,0,0,0]] (@rN C) (by kernel_rfl) (bh (bs:=[.cond 40 (ax [1,0,0,0,1,1,0,1,0] wG) (ax [1,0,0,0,1,1,0,1,1] wG)]) (by kernel_rfl) (bH (ab2 C) aw)) (fun ds=>by kernel_rfl) (fun i x=>by kernel_rfl) (fun i x β k=>by kernel_rfl) (fun β ds k=>by kernel_rfl)
noncomputable def QP (C:ag) (lo hi first:Int) (ak:List V):Option (List V):=
 (Loop (og C hi first) (lo,ak)).bind (b6 (un fun (ahw:Int)=>un fun (ahx:Int)=>un fun (I1:Bool) (ab4:List V)=>
  some [.list aa ab4]) (un fun (ahy:Int)=>un fun (ahz:Int)=>un fun (Pb:Bool) (qt:List V)=>
  some [.list aa qt]))
theorem ab5 {lo hi first:Int} {ak:List V} {r:Option (List V)} (h:QP CC lo hi first ak=r):CC zi [.int .i64 lo,.int .i64 hi,.int .i64 first,.list aa ak]=r:=
 ba (key:=121) (L:=QN CC) (bs:=[.loop (ax [1,0,0] wG)]) (by kernel_rfl) (bH (ab3 CC) aw) (aX (by kernel_rfl) h)
noncomputable abbrev Ek:Code:=cK Try.prog (az.aZ 112)
noncomputable def zZ (C:ag) (first lo hi i:Int) (ak:List V) {β:Type} (kn:(Int × (List V))→Option β) (kr:(Int × Bool × (List V))→Option β):Option β:=
 bif decide ((i:Int)≥0) then
  (C zi [.int .i64 i,.int .i64 hi,.int .i64 first,.list aa ak]).bind fun r1=>
  kn (IntKind.wrap .i64 (i-1),(V.nth r1 0).toList)
 else
  kr (i,decide ((i:Int)≥0),ak)
noncomputable def El (C:ag) (first lo hi:Int):(Int × (List V))→Option ((Int × (List V)) ⊕ (Int × Bool × (List V))):=un fun i ak=>zZ C first lo hi i ak (fun y=>some (.inl y)) (fun r=>some (.inr r))
noncomputable def z0 (C:ag) (first lo i:Int) (ak:List V) {β:Type} (kn:(Int × (List V))→Option β) (kr:(Int × Bool × (List V))→Option β):Option β:=
 bif decide ((i:Int)≥0) then
  bif (decide (0≤(IntKind.wrap .i64 (first+i))))&&(decide ((IntKind.wrap .i64 (first+i))<(ak.length:Int))) then
  (ak[(IntKind.wrap .i64 (first+i):Int).toNat]?).bind fun x5=>
  bif (decide (0≤first))&&(decide (first<(ak.length:Int))) then
   (ak[(first:Int).toNat]?).bind fun x6=>
   bif (decide (0≤first))&&(decide (first<(ak.length:Int))) then
   (ak[(first:Int).toNat]?).bind fun x7=>
   bif (decide (0≤(IntKind.wrap .i64 (first+i))))&&(decide ((IntKind.wrap .i64 (first+i))<((ak.set ((first:Int).toNat) (.agg [.int .i64 ((x5.cell 0).toInt),.int .i64 ((x5.cell 1).toInt),.list aa ((x5.cell 2).toList)])).length:Int))) then
    ((ak.set ((first:Int).toNat) (.agg [.int .i64 ((x5.cell 0).toInt),.int .i64 ((x5.cell 1).toInt),.list aa ((x5.cell 2).toList)]))[(IntKind.wrap .i64 (first+i):Int).toNat]?).bind fun x8=>
    (C zi [.int .i64 lo,.int .i64 i,.int .i64 first,.list aa ((ak.set ((first:Int).toNat) (.agg [.int .i64 ((x5.cell 0).toInt),.int .i64 ((x5.cell 1).toInt),.list aa ((x5.cell 2).toList)])).set ((IntKind.wrap .i64 (first+i):Int).toNat) (.agg [.int .i64 ((x6.cell 0).toInt),.int .i64 ((x6.cell 1).toInt),.list aa ((x6.cell 2).toList)]))]).bind fun r9=>
    kn (IntKind.wrap .i64 (i-1),(V.nth r9 0).toList)
   else none
   else none
  else none
  else none
 else
  kr (i,decide ((i:Int)≥0),ak)
noncomputable def Em (C:ag) (first lo:Int):(Int × (List V))→Option ((Int × (List V)) ⊕ (Int × Bool × (List V))):=un fun i ak=>z0 C first lo i ak (fun y=>some (.inl y)) (fun r=>some (.inr r))
noncomputable def QQ (C:ag):cz:=fun β n ds k=>
 bif Nat.beq n 65 then cl It [false,false,false,true,true] [[1,2,3,0,0,0]] (@zZ C) ds k else
 bif Nat.beq n 129 then cl Iu [false,false,true,true] [[1,2,0,0,0]] (@z0 C) ds k else
 none
abbrev QR (C:ag) (b:cw):Prop:=cx Try.prog az C (QQ C) 112 (cN Try.prog (az.aZ 112)) (az.sin 112).a9.length b
theorem ab6 (C:ag):QR C (.loop (ax [1,1,1,0,1,0,0] Ek)):=
 cy It [false,false,false,true,true] [[1,2,3,0,0,0]] (@zZ C) (by kernel_rfl) (bh (bs:=[]) (by kernel_rfl) aw) (fun ds=>by kernel_rfl) (fun i x=>by kernel_rfl) (fun i x β k=>by kernel_rfl) (fun β ds k=>by kernel_rfl)
theorem ab7 (C:ag):QR C (.loop (ax [1,1,1,1,1,0,0] Ek)):=
 cy Iu [false,false,true,true] [[1,2,0,0,0]] (@z0 C) (by kernel_rfl) (bh (bs:=[]) (by kernel_rfl) aw) (fun ds=>by kernel_rfl) (fun i x=>by kernel_rfl) (fun i x β k=>by kernel_rfl) (fun β ds k=>by kernel_rfl)
noncomputable def QS (C:ag) (a b':Int) (ak:List V):Option (List V):=
 (Loop (El C a 0 (IntKind.wrap .i64 (b'-a))) (IntKind.wrap .i64 (Int.tdiv (IntKind.wrap .i64 ((IntKind.wrap .i64 (b'-a))-1)) 2),ak)).bind (un fun (i_2:Int)=>un fun (jR:Bool) (ab8:List V)=>
  (Loop (Em C a 0) (IntKind.wrap .i64 ((IntKind.wrap .i64 (b'-a))-1),ab8)).bind (un fun (ahA:Int)=>un fun (zz:Bool) (me:List V)=>
   some [.list aa me]))
theorem ab9 {a b':Int} {ak:List V} {r:Option (List V)} (h:QS CC a b' ak=r):CC zg [.int .i64 a,.int .i64 b',.list aa ak]=r:=
 ba (key:=112) (L:=QQ CC) (bs:=[.loop (ax [1,1,1,0,1,0,0] Ek),.loop (ax [1,1,1,1,1,0,0] Ek)]) (by kernel_rfl) (bH (ab6 CC) (bH (ab7 CC) aw)) (aX (by kernel_rfl) h)
noncomputable abbrev QT:Code:=cK Try.prog (az.aZ 115)
noncomputable def wH (C:ag) (i j:Int) (ak:List V) {β:Type} (kn:(Int × Int × (List V))→Option β) (kr:(Int × Int × Bool × (List V))→Option β):Option β:=
 bif decide ((i:Int)<j) then
  bif (decide (0≤j))&&(decide (j<(ak.length:Int))) then
  (ak[(j:Int).toNat]?).bind fun x1=>
  bif (decide (0≤i))&&(decide (i<(ak.length:Int))) then
   (ak[(i:Int).toNat]?).bind fun x2=>
   bif (decide (0≤i))&&(decide (i<(ak.length:Int))) then
   (ak[(i:Int).toNat]?).bind fun x3=>
   bif (decide (0≤j))&&(decide (j<((ak.set ((i:Int).toNat) (.agg [.int .i64 ((x1.cell 0).toInt),.int .i64 ((x1.cell 1).toInt),.list aa ((x1.cell 2).toList)])).length:Int))) then
    ((ak.set ((i:Int).toNat) (.agg [.int .i64 ((x1.cell 0).toInt),.int .i64 ((x1.cell 1).toInt),.list aa ((x1.cell 2).toList)]))[(j:Int).toNat]?).bind fun x4=>
    kn (IntKind.wrap .i64 (i+1),IntKind.wrap .i64 (j-1),(ak.set ((i:Int).toNat) (.agg [.int .i64 ((x1.cell 0).toInt),.int .i64 ((x1.cell 1).toInt),.list aa ((x1.cell 2).toList)])).set ((j:Int).toNat) (.agg [.int .i64 ((x2.cell 0).toInt),.int .i64 ((x2.cell 1).toInt),.list aa ((x2.cell 2).toList)]))
   else none
   else none
  else none
  else none
 else
  kr (i,j,decide ((i:Int)<j),ak)
noncomputable def z5 (C:ag):(Int × Int × (List V))→Option ((Int × Int × (List V)) ⊕ (Int × Int × Bool × (List V))):=un fun i=>un fun j ak=>wH C i j ak (fun y=>some (.inl y)) (fun r=>some (.inr r))
noncomputable def QU (C:ag):cz:=fun β n ds k=>
 bif Nat.beq n 33 then cl Iz [true,true,true] [[0,0,0,0]] (@wH C) ds k else
 none
abbrev aca (C:ag) (b:cw):Prop:=cx Try.prog az C (QU C) 115 (cN Try.prog (az.aZ 115)) (az.sin 115).a9.length b
theorem acb (C:ag):aca C (.loop (ax [1,1,0,0] QT)):=
 cy Iz [true,true,true] [[0,0,0,0]] (@wH C) (by kernel_rfl) (bh (bs:=[]) (by kernel_rfl) aw) (fun ds=>by kernel_rfl) (fun i x=>by kernel_rfl) (fun i x β k=>by kernel_rfl) (fun β ds k=>by kernel_rfl)
noncomputable def QV (C:ag) (a b':Int) (ak:List V):Option (List V):=
 (Loop (z5 C) (a,IntKind.wrap .i64 (b'-1),ak)).bind (un fun (cG:Int)=>un fun (Jr:Int)=>un fun (o6:Bool) (acd:List V)=>
  some [.list aa acd])
theorem ace {a b':Int} {ak:List V} {r:Option (List V)} (h:QV CC a b' ak=r):CC DD [.int .i64 a,.int .i64 b',.list aa ak]=r:=
 ba (key:=115) (L:=QU CC) (bs:=[.loop (ax [1,1,0,0] QT)]) (by kernel_rfl) (bH (acb CC) aw) (aX (by kernel_rfl) h)
end Go.AM
set_option maxRecDepth 100000
set_option maxHeartbeats 4000000
namespace Go.AM.SX
open Go.Proofs Go.Sort
def ay (a b:XE):Bool:=decide (bN a b<0)
theorem rO (a b:XE):(ay a b=true)=(bN a b<0):=by unfold ay;rw[dN]
theorem qu (a b:XE):((!ay a b)=true)= ¬(bN a b<0):=by unfold ay;simp
abbrev eA (d:Array XE):List V:=o9 XE.enc d
theorem acf (a j:Nat) (d:Array XE):insInner ay a (j+1) d=if j+1>a then (if bN d[j+1]! d[j]! <0 then insInner ay a j (swp d (j+1) j) else d) else d:=by
 rw[QJ]
 by_cases h1:j+1>a
 ·rw[aj h1];simp only[h1,qI,mq,rO]
 ·rw[ai h1,ai (by simp[h1])]
theorem Jz (hi first root:Nat) (d:Array XE):siftDown ay hi first root d=
  if 2*root+1≥hi then d else
   if 2*root+2<hi then
    (if bN d[first+(2*root+1)]! d[first+(2*root+2)]! <0 then
     (if bN d[first+root]! d[first+(2*root+2)]! <0 then siftDown ay hi first (2*root+2) (swp d (first+root) (first+(2*root+2))) else d)
    else (if bN d[first+root]! d[first+(2*root+1)]! <0 then siftDown ay hi first (2*root+1) (swp d (first+root) (first+(2*root+1))) else d))
   else (if bN d[first+root]! d[first+(2*root+1)]! <0 then siftDown ay hi first (2*root+1) (swp d (first+root) (first+(2*root+1))) else d):=by
 rw[siftDown]
 by_cases h1:2*root+1≥hi
 ·rw[qG h1,aj h1]
 rw[dif_neg h1,ai h1]
 by_cases U:2*root+2<hi
 ·rw[aj U]
  by_cases h3:bN d[first+(2*root+1)]! d[first+(2*root+2)]! <0
  ·rw[aj h3,aj (by simp only[aJ,dN,rO];exact ⟨U,h3⟩)]
   simp only[qu]
   by_cases h4:bN d[first+root]! d[first+(2*root+2)]! <0
   ·rw[ai (pw h4),qG U,aj h4]
   ·rw[aj h4,ai h4]
  ·rw[ai h3,ai (by simp only[aJ,dN,rO];exact fun h=>h3 h.2)]
   simp only[qu]
   by_cases h4:bN d[first+root]! d[first+(2*root+1)]! <0
   ·rw[ai (pw h4),aj h4]
   ·rw[aj h4,ai h4]
 ·rw[ai U,ai (by simp only[aJ,dN,rO];exact fun h=>U h.1)]
  simp only[qu]
  by_cases h4:bN d[first+root]! d[first+(2*root+1)]! <0
  ·rw[ai (pw h4),aj h4]
  ·rw[aj h4,ai h4]
theorem QW {a b i:Nat}: ∀(j:Nat) (d:Array XE),j<d.size→d.size<1152921504606846976→
  ∃j' t,Loop (wF CC a b i) ((j:Int),eA d)=some (j',t,eA (insInner ay a j d))
 | 0,d,hj,hs=>⟨(0:Nat),false,bd (by
   simp (disch:=omega) only[wF,wE,un,aB,ai]
   rfl)⟩
 | j+1,d,hj,hs=>by
  obtain ⟨j',t,ih⟩:=QW (a:=a) (b:=b) (i:=i) j (swp d (j+1) j) (by rw[size_swp];omega) (by rw[size_swp];omega)
  rw[acf]
  by_cases h1:j+1>a
  ·rw[aj h1]
   have e:wF CC a b i (((j+1:Nat):Int),eA d)=if bN d[j+1]! d[j]! <0 then some (.inl ((j:Int),eA (swp d (j+1) j))) else some (.inr (((j+1:Nat):Int),decide (bN d[j+1]! d[j]! <0),eA d)):=by
    simp (disch:=omega) only[wF,wE,un,aB,dh,gD,aj,ai,wrap64,dy,fy,Int.toNat_natCast,Option.bind_some,fv,fx,XE.br,XE.bt,XE.bu,XE.re,fw,hO,gn,gf,V.aU,V.toInt_int,cond_true,cond_false,tS]
    rfl
   by_cases U:bN d[j+1]! d[j]! <0
   ·rw[aj U] at e⊢
    exact ⟨j',t,(bU e).trans ih⟩
   ·rw[ai U] at e⊢
    exact ⟨_,_,bd e⟩
  ·rw[ai h1]
   exact ⟨((j+1:Nat):Int),false,bd (by
    simp (disch:=omega) only[wF,wE,un,aB,ai])⟩
theorem acg {a b:Nat}: ∀(n i:Nat) (d:Array XE),b-i=n→b≤d.size→d.size<1152921504606846976→
  ∃j' t,Loop (Ej CC a b) ((i:Int),eA d)=some (j',t,eA (insOuter ay a b i d)):=by
 intro n
 induction n with
 | zero=>
  intro i d hn hb hs
  rw[insOuter,ai (by omega)]
  exact ⟨(i:Int),false,bd (by
   simp (disch:=omega) only[Ej,zY,un,rM,cond_false])⟩
 | succ n ih=>
  intro i d hn hb hs
  obtain ⟨j1,t1,h1⟩:=QW (a:=a) (b:=b) (i:=i) i d (by omega) hs
  obtain ⟨j',t,U⟩:=ih (i+1) (insInner ay a i d) (by omega) (by rw[Jw];omega) (by rw[Jw];omega)
  rw[insOuter,aj (by omega)]
  refine ⟨j',t,(bU ?_).trans U⟩
  simp (disch:=omega) only[Ej,zY,un,aB,aj,h1,Option.bind_some,dy,wrap64]
theorem QX {a b:Nat} {d:Array XE} (hb:b≤d.size) (hs:d.size<1152921504606846976) (ha:a<1152921504606846976):
  CC zf [.int .i64 (a:Int),.int .i64 (b:Int),.list aa (eA d)]=some [.list aa (eA (insertionSort ay d a b))]:=by
 refine ab1 ?_
 unfold QM
 obtain ⟨j',t,h⟩:=acg (a:=a) (b:=b) _ (a+1) d rfl hb hs
 simp (disch:=omega) only[dy,wrap64]
 rw[h]
 rfl
theorem ach (hi first:Nat): ∀(n root:Nat) (d:Array XE),hi-root≤n→root<1152921504606846976→first+hi≤d.size→d.size<1152921504606846976→
  (∃x y z,Loop (og CC hi first) ((root:Int),eA d)=some (.inl (x,y,z,eA (siftDown ay hi first root d))))∨
  (∃x y z,Loop (og CC hi first) ((root:Int),eA d)=some (.inr (x,y,z,eA (siftDown ay hi first root d)))):=by
 intro n
 induction n with
 | zero=>
  intro root d hn hr hb hs
  rw[Jz,aj (by omega)]
  exact .inl ⟨(root:Int),((root*2+1:Nat):Int),true,bd (by
   simp (disch:=omega) only[og,rN,un,zW,dy,wrap64];rw[mX (by omega)];rfl)⟩
 | succ n ih=>
  intro root d hn hr hb hs
  by_cases h1:2*root+1≥hi
  ·rw[Jz,aj h1]
   exact .inl ⟨(root:Int),((root*2+1:Nat):Int),true,bd (by
    simp (disch:=omega) only[og,rN,un,zW,dy,wrap64];rw[mX (by omega)];rfl)⟩
  ·have go: ∀c:Nat,c<hi→root<c→(og CC hi first ((root:Int),eA d)=
      if bN d[first+root]! d[first+c]! <0 then some (.inl ((c:Int),eA (swp d (first+root) (first+c)))) else some (.inr (.inr ((root:Int),(c:Int),true,eA d))))→
     siftDown ay hi first root d=(if bN d[first+root]! d[first+c]! <0 then siftDown ay hi first c (swp d (first+root) (first+c)) else d)→
     ((∃x y z,Loop (og CC hi first) ((root:Int),eA d)=some (.inl (x,y,z,eA (siftDown ay hi first root d))))∨
     (∃x y z,Loop (og CC hi first) ((root:Int),eA d)=some (.inr (x,y,z,eA (siftDown ay hi first root d))))):=by
    intro c hc hrc e1 e2
    rw[e2]
    by_cases h3:bN d[first+root]! d[first+c]! <0
    ·rw[aj h3] at e1
     rw[aj h3,bU e1]
     exact ih c _ (by omega) (by omega) (by rw[size_swp];omega) (by rw[size_swp];omega)
    ·rw[ai h3] at e1
     rw[ai h3,bd e1]
     exact .inr ⟨_,_,_,rfl⟩
   have e0:=Jz hi first root d
   rw[ai h1] at e0
   by_cases U:2*root+2<hi
   ·rw[aj U] at e0
    by_cases h3:bN d[first+(2*root+1)]! d[first+(2*root+2)]! <0
    ·rw[aj h3] at e0
     refine go (2*root+2) (by omega) (by omega) ?_ e0
     rw[np 2 root] at h3
     simp (disch:=omega) only[og,rN,un,zW,dy,fy,wrap64]
     rw[aB,ai (by omega),aB,aj (by omega)]
     simp (disch:=omega) only[tT,aB,dh,gD,aj,ai,wrap64,dy,fy,Int.toNat_natCast,Option.bind_some,fv,fx,XE.br,XE.bt,XE.bu,XE.re,fw,hO,gn,gf,V.aU,V.toInt_int,cond_true,cond_false,np 2 root,mX]
     by_cases h4:bN d[first+root]! d[first+(root*2+2)]! <0
     ·simp only[h4,dc];rfl
     ·simp only[h4,fO];rfl
    ·rw[ai h3] at e0
     refine go (2*root+1) (by omega) (by omega) ?_ e0
     rw[np 2 root] at h3
     simp (disch:=omega) only[og,rN,un,zW,dy,fy,wrap64]
     rw[aB,ai (by omega),aB,aj (by omega)]
     simp (disch:=omega) only[tT,aB,dh,gD,aj,ai,wrap64,dy,fy,Int.toNat_natCast,Option.bind_some,fv,fx,XE.br,XE.bt,XE.bu,XE.re,fw,hO,gn,gf,V.aU,V.toInt_int,cond_true,cond_false,np 2 root,rM]
     by_cases h4:bN d[first+root]! d[first+(root*2+1)]! <0
     ·simp only[h4,dc];rfl
     ·simp only[h4,fO];rfl
   ·rw[ai U] at e0
    refine go (2*root+1) (by omega) (by omega) ?_ e0
    simp (disch:=omega) only[og,rN,un,zW,dy,fy,wrap64]
    rw[aB,ai (by omega),aB,ai (by omega)]
    simp (disch:=omega) only[tT,aB,dh,gD,aj,ai,wrap64,dy,fy,Int.toNat_natCast,Option.bind_some,fv,fx,XE.br,XE.bt,XE.bu,XE.re,fw,hO,gn,gf,V.aU,V.toInt_int,cond_true,cond_false,np 2 root]
    by_cases h4:bN d[first+root]! d[first+(root*2+1)]! <0
    ·simp only[h4,dc];rfl
    ·simp only[h4,fO];rfl
theorem QY {lo hi first:Nat} {d:Array XE} (hl:lo<1152921504606846976) (hb:first+hi≤d.size) (hs:d.size<1152921504606846976):
  CC zi [.int .i64 (lo:Int),.int .i64 (hi:Int),.int .i64 (first:Int),.list aa (eA d)]=some [.list aa (eA (siftDown ay hi first lo d))]:=by
 refine ab5 ?_
 unfold QP
 rcases ach hi first _ lo d (b7 _) hl hb hs with ⟨x,y,z,h⟩|⟨x,y,z,h⟩
 ·rw[h];rfl
 ·rw[h];rfl
theorem QZ {hi first:Nat}: ∀(k:Nat) (d:Array XE),k<1152921504606846976→first+hi≤d.size→d.size<1152921504606846976→
  ∃x y,Loop (El CC first 0 hi) ((k:Int)-1,eA d)=some (x,y,eA (heapBuild ay hi first k d))
 | 0,d,hk,hb,hs=>⟨-1,false,bd (by
   simp (disch:=omega) only[El,zZ,un,aB,ai]
   rfl)⟩
 | k+1,d,hk,hb,hs=>by
  obtain ⟨x,y,ih⟩:=QZ (hi:=hi) (first:=first) k (siftDown ay hi first k d) (by omega) (by rw[zX _ _ _ _ _ (b7 _)];omega) (by rw[zX _ _ _ _ _ (b7 _)];omega)
  refine ⟨x,y,(bU ?_).trans ih⟩
  simp (disch:=omega) only[El,zZ,un,aB,aj,tS,QY,Option.bind_some,V.aU,V.lf,wrap64]
theorem Q0 {first:Nat}: ∀(k:Nat) (d:Array XE),k<1152921504606846976→first+k≤d.size→d.size<1152921504606846976→
  ∃x y,Loop (Em CC first 0) ((k:Int)-1,eA d)=some (x,y,eA (heapPop ay first k d))
 | 0,d,hk,hb,hs=>⟨-1,false,bd (by
   simp (disch:=omega) only[Em,z0,un,aB,ai]
   rfl)⟩
 | k+1,d,hk,hb,hs=>by
  obtain ⟨x,y,ih⟩:=Q0 (first:=first) k (siftDown ay k first 0 (swp d first (first+k))) (by omega) (by rw[zX _ _ _ _ _ (b7 _),size_swp];omega) (by rw[zX _ _ _ _ _ (b7 _),size_swp];omega)
  refine ⟨x,y,(bU ?_).trans ih⟩
  have gA:=QY (lo:=0) (hi:=k) (first:=first) (d:=swp d first (first+k)) (by omega) (by rw[size_swp];omega) (by rw[size_swp];omega)
  unfold swp at gA⊢
  rw[show ((0:Nat):Int)=0 from rfl] at gA
  simp (disch:=omega) only[Em,z0,un,tS,aB,dh,gD,aj,ai,wrap64,dy,fy,Int.toNat_natCast,Option.bind_some,fv,fx,XE.br,XE.bt,XE.bu,XE.re,fw,hO,gn,gf,V.aU,V.toInt_int,cond_true,cond_false]
  rw[gA]
  simp (disch:=omega) only[Option.bind_some,V.aU,V.lf,wrap64]
theorem aci {a b:Nat} {d:Array XE} (eQ:a<b) (hb:b≤d.size) (hs:d.size<1152921504606846976):
  CC zg [.int .i64 (a:Int),.int .i64 (b:Int),.list aa (eA d)]=some [.list aa (eA (heapSort ay d a b))]:=by
 refine ab9 ?_
 unfold QS
 obtain ⟨x,y,h1⟩:=QZ (hi:=b-a) (first:=a) ((b-a-1)/2+1) d (by omega) (by omega) hs
 obtain ⟨x2,y2,U⟩:=Q0 (first:=a) (b-a) (heapBuild ay (b-a) a ((b-a-1)/2+1) d) (by omega) (by rw[Jx];omega) (by rw[Jx];omega)
 have e1:((((b-a-1)/2+1:Nat):Int)-1)=Int.tdiv (((b-a:Nat):Int)-1) 2:=by
  rw[Int.tdiv_eq_ediv_of_nonneg (by omega)]
  omega
 rw[e1] at h1
 simp (disch:=omega) only[mc,wrap64]
 rw[h1]
 simp only[Option.bind_some,un]
 rw[U]
 rfl
theorem acj: ∀(n i j:Nat) (d:Array XE),j-i≤n→j<d.size→d.size<1152921504606846976→
  ∃x y z,Loop (z5 CC) ((i:Int),(j:Int),eA d)=some (x,y,z,eA (reverseLoop i j d)):=by
 intro n
 induction n with
 | zero=>
  intro i j d hn hj hs
  rw[reverseLoop,ai (by omega)]
  exact ⟨(i:Int),(j:Int),false,bd (by
   simp (disch:=omega) only[z5,wH,un,rM,cond_false])⟩
 | succ n ih=>
  intro i j d hn hj hs
  rw[reverseLoop]
  by_cases h:i<j
  ·rw[aj h]
   obtain ⟨x,y,z,U⟩:=ih (i+1) (j-1) (swp d i j) (by omega) (by rw[size_swp];omega) (by rw[size_swp];omega)
   refine ⟨x,y,z,(bU ?_).trans U⟩
   simp (disch:=omega) only[z5,wH,un,aB,dh,gD,aj,ai,wrap64,dy,fy,Int.toNat_natCast,Option.bind_some,fv,fx,XE.br,XE.bt,XE.bu,XE.re,fw,hO,gn,gf,V.aU,V.toInt_int,cond_true,cond_false,jS]
   rfl
  ·rw[ai h]
   exact ⟨(i:Int),(j:Int),false,bd (by
    simp (disch:=omega) only[z5,wH,un,rM,cond_false])⟩
theorem ack {a b:Nat} {d:Array XE} (eQ:a<b) (hb:b≤d.size) (hs:d.size<1152921504606846976):
  CC DD [.int .i64 (a:Int),.int .i64 (b:Int),.list aa (eA d)]=some [.list aa (eA (reverseRange d a b))]:=by
 refine ace ?_
 unfold QV
 obtain ⟨x,y,z,h⟩:=acj _ a (b-1) d (b7 _) (by omega) hs
 simp (disch:=omega) only[jS,wrap64]
 rw[h]
 rfl
end Go.AM.SX
set_option maxRecDepth 100000
namespace Go.AM
open Go.Proofs
noncomputable abbrev pc:Code:=cK Try.prog (az.aZ 118)
noncomputable def z6 (C:ag) (a j:Int) (ak:List V) (i:Int) {β:Type} (kn:Int→Option β) (kr:(Int × Bool)→Option β):Option β:=
 bif decide ((i:Int)≤j) then
  bif (decide (0≤i))&&(decide (i<(ak.length:Int))) then
  (ak[(i:Int).toNat]?).bind fun x5=>
  bif (decide (0≤a))&&(decide (a<(ak.length:Int))) then
   (ak[(a:Int).toNat]?).bind fun x6=>
   (C a8 [.int .i64 ((x5.cell 0).toInt),.int .i64 ((x5.cell 1).toInt),.list aa ((x5.cell 2).toList),.int .i64 ((x6.cell 0).toInt),.int .i64 ((x6.cell 1).toInt),.list aa ((x6.cell 2).toList)]).bind fun r7=>
   bif decide ((((V.nth r7 0).toInt):Int)<0) then
   kn (IntKind.wrap .i64 (i+1))
   else
   kr (i,decide ((((V.nth r7 0).toInt):Int)<0))
  else none
  else none
 else
  kr (i,false)
noncomputable def z7 (C:ag) (a j:Int) (ak:List V):(Int)→Option ((Int) ⊕ (Int × Bool)):=fun i=>z6 C a j ak i (fun y=>some (.inl y)) (fun r=>some (.inr r))
noncomputable def wI (C:ag) (a i:Int) (ak:List V) (j:Int) {β:Type} (kn:Int→Option β) (kr:(Int × Bool)→Option β):Option β:=
 bif decide ((i:Int)≤j) then
  bif (decide (0≤j))&&(decide (j<(ak.length:Int))) then
  (ak[(j:Int).toNat]?).bind fun mZ=>
  bif (decide (0≤a))&&(decide (a<(ak.length:Int))) then
   (ak[(a:Int).toNat]?).bind fun eJ=>
   (C a8 [.int .i64 ((mZ.cell 0).toInt),.int .i64 ((mZ.cell 1).toInt),.list aa ((mZ.cell 2).toList),.int .i64 ((eJ.cell 0).toInt),.int .i64 ((eJ.cell 1).toInt),.list aa ((eJ.cell 2).toList)]).bind fun fA=>
   bif !(decide ((((V.nth fA 0).toInt):Int)<0)) then
   kn (IntKind.wrap .i64 (j-1))
   else
   kr (j,!(decide ((((V.nth fA 0).toInt):Int)<0)))
  else none
  else none
 else
  kr (j,false)
noncomputable def wJ (C:ag) (a i:Int) (ak:List V):(Int)→Option ((Int) ⊕ (Int × Bool)):=fun j=>wI C a i ak j (fun y=>some (.inl y)) (fun r=>some (.inr r))
noncomputable def z8 (C:ag) (a j:Int) (ak:List V) (i:Int) {β:Type} (kn:Int→Option β) (kr:(Int × Bool)→Option β):Option β:=
 bif decide ((i:Int)≤j) then
  bif (decide (0≤i))&&(decide (i<(ak.length:Int))) then
  (ak[(i:Int).toNat]?).bind fun js=>
  bif (decide (0≤a))&&(decide (a<(ak.length:Int))) then
   (ak[(a:Int).toNat]?).bind fun tU=>
   (C a8 [.int .i64 ((js.cell 0).toInt),.int .i64 ((js.cell 1).toInt),.list aa ((js.cell 2).toList),.int .i64 ((tU.cell 0).toInt),.int .i64 ((tU.cell 1).toInt),.list aa ((tU.cell 2).toList)]).bind fun Q1=>
   bif decide ((((V.nth Q1 0).toInt):Int)<0) then
   kn (IntKind.wrap .i64 (i+1))
   else
   kr (i,decide ((((V.nth Q1 0).toInt):Int)<0))
  else none
  else none
 else
  kr (i,false)
noncomputable def z9 (C:ag) (a j:Int) (ak:List V):(Int)→Option ((Int) ⊕ (Int × Bool)):=fun i=>z8 C a j ak i (fun y=>some (.inl y)) (fun r=>some (.inr r))
noncomputable def wK (C:ag) (a i:Int) (ak:List V) (j:Int) {β:Type} (kn:Int→Option β) (kr:(Int × Bool)→Option β):Option β:=
 bif decide ((i:Int)≤j) then
  bif (decide (0≤j))&&(decide (j<(ak.length:Int))) then
  (ak[(j:Int).toNat]?).bind fun tV=>
  bif (decide (0≤a))&&(decide (a<(ak.length:Int))) then
   (ak[(a:Int).toNat]?).bind fun tW=>
   (C a8 [.int .i64 ((tV.cell 0).toInt),.int .i64 ((tV.cell 1).toInt),.list aa ((tV.cell 2).toList),.int .i64 ((tW.cell 0).toInt),.int .i64 ((tW.cell 1).toInt),.list aa ((tW.cell 2).toList)]).bind fun En=>
   bif !(decide ((((V.nth En 0).toInt):Int)<0)) then
   kn (IntKind.wrap .i64 (j-1))
   else
   kr (j,!(decide ((((V.nth En 0).toInt):Int)<0)))
  else none
  else none
 else
  kr (j,false)
noncomputable def wL (C:ag) (a i:Int) (ak:List V):(Int)→Option ((Int) ⊕ (Int × Bool)):=fun j=>wK C a i ak j (fun y=>some (.inl y)) (fun r=>some (.inr r))
noncomputable def Aa (C:ag) (a i j:Int) (ak:List V) {β:Type} (kn:(Int × Int × (List V))→Option β) (kr:(Int × Int × Bool × (List V))→Option β):Option β:=
 (Loop (z9 C a j ak) i).bind (un fun (lp:Int) (Pc:Bool)=>
  (Loop (wL C a lp ak) j).bind (un fun (oh:Int) (YG:Bool)=>
   bif decide ((lp:Int)>oh) then
    kr (lp,oh,decide ((lp:Int)>oh),ak)
   else
    bif (decide (0≤oh))&&(decide (oh<(ak.length:Int))) then
    (ak[(oh:Int).toNat]?).bind fun qv=>
    bif (decide (0≤lp))&&(decide (lp<(ak.length:Int))) then
     (ak[(lp:Int).toNat]?).bind fun JA=>
     bif (decide (0≤lp))&&(decide (lp<(ak.length:Int))) then
     (ak[(lp:Int).toNat]?).bind fun x35=>
     bif (decide (0≤oh))&&(decide (oh<((ak.set ((lp:Int).toNat) (.agg [.int .i64 ((qv.cell 0).toInt),.int .i64 ((qv.cell 1).toInt),.list aa ((qv.cell 2).toList)])).length:Int))) then
      ((ak.set ((lp:Int).toNat) (.agg [.int .i64 ((qv.cell 0).toInt),.int .i64 ((qv.cell 1).toInt),.list aa ((qv.cell 2).toList)]))[(oh:Int).toNat]?).bind fun x36=>
      kn (IntKind.wrap .i64 (lp+1),IntKind.wrap .i64 (oh-1),(ak.set ((lp:Int).toNat) (.agg [.int .i64 ((qv.cell 0).toInt),.int .i64 ((qv.cell 1).toInt),.list aa ((qv.cell 2).toList)])).set ((oh:Int).toNat) (.agg [.int .i64 ((JA.cell 0).toInt),.int .i64 ((JA.cell 1).toInt),.list aa ((JA.cell 2).toList)]))
     else none
     else none
    else none
    else none))
noncomputable def wM (C:ag) (a:Int):(Int × Int × (List V))→Option ((Int × Int × (List V)) ⊕ (Int × Int × Bool × (List V))):=un fun i=>un fun j ak=>Aa C a i j ak (fun y=>some (.inl y)) (fun r=>some (.inr r))
noncomputable def Q2 (C:ag):cz:=fun β n ds k=>
 bif Nat.beq n 49 then cl II [false,true,false,false] [[1,0,3,0,4]] (@z6 C) ds k else
 bif Nat.beq n 81 then cl IJ [false,false,true,false] [[1,2,0,0,4]] (@wI C) ds k else
 bif Nat.beq n 209 then cl IK [false,true,false,false] [[1,0,3,0,4]] (@z8 C) ds k else
 bif Nat.beq n 241 then cl IL [false,false,true,false] [[1,2,0,0,4]] (@wK C) ds k else
 bif Nat.beq n 210 then cl IM [false,true,true,true] [[1,0,0,0,0]] (@Aa C) ds k else
 none
abbrev Ab (C:ag) (b:cw):Prop:=cx Try.prog az C (Q2 C) 118 (cN Try.prog (az.aZ 118)) (az.sin 118).a9.length b
theorem acm (C:ag):Ab C (.loop (ax [1,1,1,0,0,0] pc)):=
 cy II [false,true,false,false] [[1,0,3,0,4]] (@z6 C) (by kernel_rfl) (bh (bs:=[]) (by kernel_rfl) aw) (fun ds=>by kernel_rfl) (fun i x=>by kernel_rfl) (fun i x β k=>by kernel_rfl) (fun β ds k=>by kernel_rfl)
theorem acn (C:ag):Ab C (.loop (ax [1,1,1,1,0,0,0] pc)):=
 cy IJ [false,false,true,false] [[1,2,0,0,4]] (@wI C) (by kernel_rfl) (bh (bs:=[]) (by kernel_rfl) aw) (fun ds=>by kernel_rfl) (fun i x=>by kernel_rfl) (fun i x β k=>by kernel_rfl) (fun β ds k=>by kernel_rfl)
theorem aco (C:ag):Ab C (.loop (ax [1,1,1,1,1,1,1,1,1,0,0,0,0,0,0,0] pc)):=
 cy IK [false,true,false,false] [[1,0,3,0,4]] (@z8 C) (by kernel_rfl) (bh (bs:=[]) (by kernel_rfl) aw) (fun ds=>by kernel_rfl) (fun i x=>by kernel_rfl) (fun i x β k=>by kernel_rfl) (fun β ds k=>by kernel_rfl)
theorem acp (C:ag):Ab C (.loop (ax [1,1,1,1,1,1,1,1,1,0,0,0,0,1,0,0,0] pc)):=
 cy IL [false,false,true,false] [[1,2,0,0,4]] (@wK C) (by kernel_rfl) (bh (bs:=[]) (by kernel_rfl) aw) (fun ds=>by kernel_rfl) (fun i x=>by kernel_rfl) (fun i x β k=>by kernel_rfl) (fun β ds k=>by kernel_rfl)
theorem acq (C:ag):Ab C (.loop (ax [1,1,1,1,1,1,1,1,1,0,0,0] pc)):=
 cy IM [false,true,true,true] [[1,0,0,0,0]] (@Aa C) (by kernel_rfl) (bh (bs:=[.loop (ax [1,1,1,1,1,1,1,1,1,0,0,0,0,0,0,0] pc),.loop (ax [1,1,1,1,1,1,1,1,1,0,0,0,0,1,0,0,0] pc)]) (by kernel_rfl) (bH (aco C) (bH (acp C) aw))) (fun ds=>by kernel_rfl) (fun i x=>by kernel_rfl) (fun i x β k=>by kernel_rfl) (fun β ds k=>by kernel_rfl)
noncomputable def Q3 (C:ag) (a b' pivot:Int) (ak:List V):Option (List V):=
 bif (decide (0≤pivot))&&(decide (pivot<(ak.length:Int))) then
  (ak[(pivot:Int).toNat]?).bind fun x1=>
  bif (decide (0≤a))&&(decide (a<(ak.length:Int))) then
  (ak[(a:Int).toNat]?).bind fun x2=>
  bif (decide (0≤a))&&(decide (a<(ak.length:Int))) then
   (ak[(a:Int).toNat]?).bind fun x3=>
   bif (decide (0≤pivot))&&(decide (pivot<((ak.set ((a:Int).toNat) (.agg [.int .i64 ((x1.cell 0).toInt),.int .i64 ((x1.cell 1).toInt),.list aa ((x1.cell 2).toList)])).length:Int))) then
   ((ak.set ((a:Int).toNat) (.agg [.int .i64 ((x1.cell 0).toInt),.int .i64 ((x1.cell 1).toInt),.list aa ((x1.cell 2).toList)]))[(pivot:Int).toNat]?).bind fun x4=>
   (Loop (z7 C a (IntKind.wrap .i64 (b'-1)) ((ak.set ((a:Int).toNat) (.agg [.int .i64 ((x1.cell 0).toInt),.int .i64 ((x1.cell 1).toInt),.list aa ((x1.cell 2).toList)])).set ((pivot:Int).toNat) (.agg [.int .i64 ((x2.cell 0).toInt),.int .i64 ((x2.cell 1).toInt),.list aa ((x2.cell 2).toList)]))) (IntKind.wrap .i64 (a+1))).bind (un fun (eK:Int) (rF:Bool)=>
    (Loop (wJ C a eK ((ak.set ((a:Int).toNat) (.agg [.int .i64 ((x1.cell 0).toInt),.int .i64 ((x1.cell 1).toInt),.list aa ((x1.cell 2).toList)])).set ((pivot:Int).toNat) (.agg [.int .i64 ((x2.cell 0).toInt),.int .i64 ((x2.cell 1).toInt),.list aa ((x2.cell 2).toList)]))) (IntKind.wrap .i64 (b'-1))).bind (un fun (ee:Int) (zA:Bool)=>
     bif decide ((eK:Int)>ee) then
      bif (decide (0≤a))&&(decide (a<(((ak.set ((a:Int).toNat) (.agg [.int .i64 ((x1.cell 0).toInt),.int .i64 ((x1.cell 1).toInt),.list aa ((x1.cell 2).toList)])).set ((pivot:Int).toNat) (.agg [.int .i64 ((x2.cell 0).toInt),.int .i64 ((x2.cell 1).toInt),.list aa ((x2.cell 2).toList)])).length:Int))) then
      (((ak.set ((a:Int).toNat) (.agg [.int .i64 ((x1.cell 0).toInt),.int .i64 ((x1.cell 1).toInt),.list aa ((x1.cell 2).toList)])).set ((pivot:Int).toNat) (.agg [.int .i64 ((x2.cell 0).toInt),.int .i64 ((x2.cell 1).toInt),.list aa ((x2.cell 2).toList)]))[(a:Int).toNat]?).bind fun fB=>
      bif (decide (0≤ee))&&(decide (ee<(((ak.set ((a:Int).toNat) (.agg [.int .i64 ((x1.cell 0).toInt),.int .i64 ((x1.cell 1).toInt),.list aa ((x1.cell 2).toList)])).set ((pivot:Int).toNat) (.agg [.int .i64 ((x2.cell 0).toInt),.int .i64 ((x2.cell 1).toInt),.list aa ((x2.cell 2).toList)])).length:Int))) then
       (((ak.set ((a:Int).toNat) (.agg [.int .i64 ((x1.cell 0).toInt),.int .i64 ((x1.cell 1).toInt),.list aa ((x1.cell 2).toList)])).set ((pivot:Int).toNat) (.agg [.int .i64 ((x2.cell 0).toInt),.int .i64 ((x2.cell 1).toInt),.list aa ((x2.cell 2).toList)]))[(ee:Int).toNat]?).bind fun gg=>
       bif (decide (0≤ee))&&(decide (ee<(((ak.set ((a:Int).toNat) (.agg [.int .i64 ((x1.cell 0).toInt),.int .i64 ((x1.cell 1).toInt),.list aa ((x1.cell 2).toList)])).set ((pivot:Int).toNat) (.agg [.int .i64 ((x2.cell 0).toInt),.int .i64 ((x2.cell 1).toInt),.list aa ((x2.cell 2).toList)])).length:Int))) then
       (((ak.set ((a:Int).toNat) (.agg [.int .i64 ((x1.cell 0).toInt),.int .i64 ((x1.cell 1).toInt),.list aa ((x1.cell 2).toList)])).set ((pivot:Int).toNat) (.agg [.int .i64 ((x2.cell 0).toInt),.int .i64 ((x2.cell 1).toInt),.list aa ((x2.cell 2).toList)]))[(ee:Int).toNat]?).bind fun qs=>
       bif (decide (0≤a))&&(decide (a<((((ak.set ((a:Int).toNat) (.agg [.int .i64 ((x1.cell 0).toInt),.int .i64 ((x1.cell 1).toInt),.list aa ((x1.cell 2).toList)])).set ((pivot:Int).toNat) (.agg [.int .i64 ((x2.cell 0).toInt),.int .i64 ((x2.cell 1).toInt),.list aa ((x2.cell 2).toList)])).set ((ee:Int).toNat) (.agg [.int .i64 ((fB.cell 0).toInt),.int .i64 ((fB.cell 1).toInt),.list aa ((fB.cell 2).toList)])).length:Int))) then
        ((((ak.set ((a:Int).toNat) (.agg [.int .i64 ((x1.cell 0).toInt),.int .i64 ((x1.cell 1).toInt),.list aa ((x1.cell 2).toList)])).set ((pivot:Int).toNat) (.agg [.int .i64 ((x2.cell 0).toInt),.int .i64 ((x2.cell 1).toInt),.list aa ((x2.cell 2).toList)])).set ((ee:Int).toNat) (.agg [.int .i64 ((fB.cell 0).toInt),.int .i64 ((fB.cell 1).toInt),.list aa ((fB.cell 2).toList)]))[(a:Int).toNat]?).bind fun wk=>
        some [.int .i64 ee,.bool true,.list aa ((((ak.set ((a:Int).toNat) (.agg [.int .i64 ((x1.cell 0).toInt),.int .i64 ((x1.cell 1).toInt),.list aa ((x1.cell 2).toList)])).set ((pivot:Int).toNat) (.agg [.int .i64 ((x2.cell 0).toInt),.int .i64 ((x2.cell 1).toInt),.list aa ((x2.cell 2).toList)])).set ((ee:Int).toNat) (.agg [.int .i64 ((fB.cell 0).toInt),.int .i64 ((fB.cell 1).toInt),.list aa ((fB.cell 2).toList)])).set ((a:Int).toNat) (.agg [.int .i64 ((gg.cell 0).toInt),.int .i64 ((gg.cell 1).toInt),.list aa ((gg.cell 2).toList)]))]
       else none
       else none
      else none
      else none
     else
      bif (decide (0≤ee))&&(decide (ee<(((ak.set ((a:Int).toNat) (.agg [.int .i64 ((x1.cell 0).toInt),.int .i64 ((x1.cell 1).toInt),.list aa ((x1.cell 2).toList)])).set ((pivot:Int).toNat) (.agg [.int .i64 ((x2.cell 0).toInt),.int .i64 ((x2.cell 1).toInt),.list aa ((x2.cell 2).toList)])).length:Int))) then
      (((ak.set ((a:Int).toNat) (.agg [.int .i64 ((x1.cell 0).toInt),.int .i64 ((x1.cell 1).toInt),.list aa ((x1.cell 2).toList)])).set ((pivot:Int).toNat) (.agg [.int .i64 ((x2.cell 0).toInt),.int .i64 ((x2.cell 1).toInt),.list aa ((x2.cell 2).toList)]))[(ee:Int).toNat]?).bind fun pb=>
      bif (decide (0≤eK))&&(decide (eK<(((ak.set ((a:Int).toNat) (.agg [.int .i64 ((x1.cell 0).toInt),.int .i64 ((x1.cell 1).toInt),.list aa ((x1.cell 2).toList)])).set ((pivot:Int).toNat) (.agg [.int .i64 ((x2.cell 0).toInt),.int .i64 ((x2.cell 1).toInt),.list aa ((x2.cell 2).toList)])).length:Int))) then
       (((ak.set ((a:Int).toNat) (.agg [.int .i64 ((x1.cell 0).toInt),.int .i64 ((x1.cell 1).toInt),.list aa ((x1.cell 2).toList)])).set ((pivot:Int).toNat) (.agg [.int .i64 ((x2.cell 0).toInt),.int .i64 ((x2.cell 1).toInt),.list aa ((x2.cell 2).toList)]))[(eK:Int).toNat]?).bind fun tX=>
       bif (decide (0≤eK))&&(decide (eK<(((ak.set ((a:Int).toNat) (.agg [.int .i64 ((x1.cell 0).toInt),.int .i64 ((x1.cell 1).toInt),.list aa ((x1.cell 2).toList)])).set ((pivot:Int).toNat) (.agg [.int .i64 ((x2.cell 0).toInt),.int .i64 ((x2.cell 1).toInt),.list aa ((x2.cell 2).toList)])).length:Int))) then
       (((ak.set ((a:Int).toNat) (.agg [.int .i64 ((x1.cell 0).toInt),.int .i64 ((x1.cell 1).toInt),.list aa ((x1.cell 2).toList)])).set ((pivot:Int).toNat) (.agg [.int .i64 ((x2.cell 0).toInt),.int .i64 ((x2.cell 1).toInt),.list aa ((x2.cell 2).toList)]))[(eK:Int).toNat]?).bind fun Eo=>
       bif (decide (0≤ee))&&(decide (ee<((((ak.set ((a:Int).toNat) (.agg [.int .i64 ((x1.cell 0).toInt),.int .i64 ((x1.cell 1).toInt),.list aa ((x1.cell 2).toList)])).set ((pivot:Int).toNat) (.agg [.int .i64 ((x2.cell 0).toInt),.int .i64 ((x2.cell 1).toInt),.list aa ((x2.cell 2).toList)])).set ((eK:Int).toNat) (.agg [.int .i64 ((pb.cell 0).toInt),.int .i64 ((pb.cell 1).toInt),.list aa ((pb.cell 2).toList)])).length:Int))) then
        ((((ak.set ((a:Int).toNat) (.agg [.int .i64 ((x1.cell 0).toInt),.int .i64 ((x1.cell 1).toInt),.list aa ((x1.cell 2).toList)])).set ((pivot:Int).toNat) (.agg [.int .i64 ((x2.cell 0).toInt),.int .i64 ((x2.cell 1).toInt),.list aa ((x2.cell 2).toList)])).set ((eK:Int).toNat) (.agg [.int .i64 ((pb.cell 0).toInt),.int .i64 ((pb.cell 1).toInt),.list aa ((pb.cell 2).toList)]))[(ee:Int).toNat]?).bind fun x22=>
        (Loop (wM C a) (IntKind.wrap .i64 (eK+1),IntKind.wrap .i64 (ee-1),(((ak.set ((a:Int).toNat) (.agg [.int .i64 ((x1.cell 0).toInt),.int .i64 ((x1.cell 1).toInt),.list aa ((x1.cell 2).toList)])).set ((pivot:Int).toNat) (.agg [.int .i64 ((x2.cell 0).toInt),.int .i64 ((x2.cell 1).toInt),.list aa ((x2.cell 2).toList)])).set ((eK:Int).toNat) (.agg [.int .i64 ((pb.cell 0).toInt),.int .i64 ((pb.cell 1).toInt),.list aa ((pb.cell 2).toList)])).set ((ee:Int).toNat) (.agg [.int .i64 ((tX.cell 0).toInt),.int .i64 ((tX.cell 1).toInt),.list aa ((tX.cell 2).toList)]))).bind (un fun (Zg:Int)=>un fun (pd:Int)=>un fun (Pj:Bool) (ju:List V)=>
         bif (decide (0≤a))&&(decide (a<(ju.length:Int))) then
         (ju[(a:Int).toNat]?).bind fun mf=>
         bif (decide (0≤pd))&&(decide (pd<(ju.length:Int))) then
          (ju[(pd:Int).toNat]?).bind fun tY=>
          bif (decide (0≤pd))&&(decide (pd<(ju.length:Int))) then
          (ju[(pd:Int).toNat]?).bind fun x43=>
          bif (decide (0≤a))&&(decide (a<((ju.set ((pd:Int).toNat) (.agg [.int .i64 ((mf.cell 0).toInt),.int .i64 ((mf.cell 1).toInt),.list aa ((mf.cell 2).toList)])).length:Int))) then
           ((ju.set ((pd:Int).toNat) (.agg [.int .i64 ((mf.cell 0).toInt),.int .i64 ((mf.cell 1).toInt),.list aa ((mf.cell 2).toList)]))[(a:Int).toNat]?).bind fun x44=>
           some [.int .i64 pd,.bool false,.list aa ((ju.set ((pd:Int).toNat) (.agg [.int .i64 ((mf.cell 0).toInt),.int .i64 ((mf.cell 1).toInt),.list aa ((mf.cell 2).toList)])).set ((a:Int).toNat) (.agg [.int .i64 ((tY.cell 0).toInt),.int .i64 ((tY.cell 1).toInt),.list aa ((tY.cell 2).toList)]))]
          else none
          else none
         else none
         else none)
       else none
       else none
      else none
      else none))
   else none
  else none
  else none
 else none
theorem acr {a b' pivot:Int} {ak:List V} {r:Option (List V)} (h:Q3 CC a b' pivot ak=r):CC mS [.int .i64 a,.int .i64 b',.int .i64 pivot,.list aa ak]=r:=
 ba (key:=118) (L:=Q2 CC) (bs:=[.loop (ax [1,1,1,0,0,0] pc),.loop (ax [1,1,1,1,0,0,0] pc),.loop (ax [1,1,1,1,1,1,1,1,1,0,0,0] pc)]) (by kernel_rfl) (bH (acm CC) (bH (acn CC) (bH (acq CC) aw))) (aX (by kernel_rfl) h)
noncomputable abbrev wO:Code:=cK Try.prog (az.aZ 117)
noncomputable def Ac (C:ag) (a j:Int) (ak:List V) (i:Int) {β:Type} (kn:Int→Option β) (kr:(Int × Bool)→Option β):Option β:=
 bif decide ((i:Int)≤j) then
  bif (decide (0≤a))&&(decide (a<(ak.length:Int))) then
  (ak[(a:Int).toNat]?).bind fun x5=>
  bif (decide (0≤i))&&(decide (i<(ak.length:Int))) then
   (ak[(i:Int).toNat]?).bind fun x6=>
   (C a8 [.int .i64 ((x5.cell 0).toInt),.int .i64 ((x5.cell 1).toInt),.list aa ((x5.cell 2).toList),.int .i64 ((x6.cell 0).toInt),.int .i64 ((x6.cell 1).toInt),.list aa ((x6.cell 2).toList)]).bind fun r7=>
   bif !(decide ((((V.nth r7 0).toInt):Int)<0)) then
   kn (IntKind.wrap .i64 (i+1))
   else
   kr (i,!(decide ((((V.nth r7 0).toInt):Int)<0)))
  else none
  else none
 else
  kr (i,false)
noncomputable def Ad (C:ag) (a j:Int) (ak:List V):(Int)→Option ((Int) ⊕ (Int × Bool)):=fun i=>Ac C a j ak i (fun y=>some (.inl y)) (fun r=>some (.inr r))
noncomputable def wP (C:ag) (a i:Int) (ak:List V) (j:Int) {β:Type} (kn:Int→Option β) (kr:(Int × Bool)→Option β):Option β:=
 bif decide ((i:Int)≤j) then
  bif (decide (0≤a))&&(decide (a<(ak.length:Int))) then
  (ak[(a:Int).toNat]?).bind fun mZ=>
  bif (decide (0≤j))&&(decide (j<(ak.length:Int))) then
   (ak[(j:Int).toNat]?).bind fun eJ=>
   (C a8 [.int .i64 ((mZ.cell 0).toInt),.int .i64 ((mZ.cell 1).toInt),.list aa ((mZ.cell 2).toList),.int .i64 ((eJ.cell 0).toInt),.int .i64 ((eJ.cell 1).toInt),.list aa ((eJ.cell 2).toList)]).bind fun fA=>
   bif decide ((((V.nth fA 0).toInt):Int)<0) then
   kn (IntKind.wrap .i64 (j-1))
   else
   kr (j,decide ((((V.nth fA 0).toInt):Int)<0))
  else none
  else none
 else
  kr (j,false)
noncomputable def wQ (C:ag) (a i:Int) (ak:List V):(Int)→Option ((Int) ⊕ (Int × Bool)):=fun j=>wP C a i ak j (fun y=>some (.inl y)) (fun r=>some (.inr r))
noncomputable def Ae (C:ag) (a i j:Int) (ak:List V) {β:Type} (kn:(Int × Int × (List V))→Option β) (kr:(Int × Int × Bool × (List V))→Option β):Option β:=
 (Loop (Ad C a j ak) i).bind (un fun (eK:Int) (rF:Bool)=>
  (Loop (wQ C a eK ak) j).bind (un fun (ee:Int) (zA:Bool)=>
   bif decide ((eK:Int)>ee) then
    kr (eK,ee,decide ((eK:Int)>ee),ak)
   else
    bif (decide (0≤ee))&&(decide (ee<(ak.length:Int))) then
    (ak[(ee:Int).toNat]?).bind fun fB=>
    bif (decide (0≤eK))&&(decide (eK<(ak.length:Int))) then
     (ak[(eK:Int).toNat]?).bind fun gg=>
     bif (decide (0≤eK))&&(decide (eK<(ak.length:Int))) then
     (ak[(eK:Int).toNat]?).bind fun qs=>
     bif (decide (0≤ee))&&(decide (ee<((ak.set ((eK:Int).toNat) (.agg [.int .i64 ((fB.cell 0).toInt),.int .i64 ((fB.cell 1).toInt),.list aa ((fB.cell 2).toList)])).length:Int))) then
      ((ak.set ((eK:Int).toNat) (.agg [.int .i64 ((fB.cell 0).toInt),.int .i64 ((fB.cell 1).toInt),.list aa ((fB.cell 2).toList)]))[(ee:Int).toNat]?).bind fun wk=>
      kn (IntKind.wrap .i64 (eK+1),IntKind.wrap .i64 (ee-1),(ak.set ((eK:Int).toNat) (.agg [.int .i64 ((fB.cell 0).toInt),.int .i64 ((fB.cell 1).toInt),.list aa ((fB.cell 2).toList)])).set ((ee:Int).toNat) (.agg [.int .i64 ((gg.cell 0).toInt),.int .i64 ((gg.cell 1).toInt),.list aa ((gg.cell 2).toList)]))
     else none
     else none
    else none
    else none))
noncomputable def wR (C:ag) (a:Int):(Int × Int × (List V))→Option ((Int × Int × (List V)) ⊕ (Int × Int × Bool × (List V))):=un fun i=>un fun j ak=>Ae C a i j ak (fun y=>some (.inl y)) (fun r=>some (.inr r))
noncomputable def Q4 (C:ag):cz:=fun β n ds k=>
 bif Nat.beq n 49 then cl IF [false,true,false,false] [[1,0,3,0,4]] (@Ac C) ds k else
 bif Nat.beq n 81 then cl IG [false,false,true,false] [[1,2,0,0,4]] (@wP C) ds k else
 bif Nat.beq n 50 then cl IH [false,true,true,true] [[1,0,0,0,0]] (@Ae C) ds k else
 none
abbrev JB (C:ag) (b:cw):Prop:=cx Try.prog az C (Q4 C) 117 (cN Try.prog (az.aZ 117)) (az.sin 117).a9.length b
theorem acs (C:ag):JB C (.loop (ax [1,1,1,0,0,0,0,0,0,0] wO)):=
 cy IF [false,true,false,false] [[1,0,3,0,4]] (@Ac C) (by kernel_rfl) (bh (bs:=[]) (by kernel_rfl) aw) (fun ds=>by kernel_rfl) (fun i x=>by kernel_rfl) (fun i x β k=>by kernel_rfl) (fun β ds k=>by kernel_rfl)
theorem acu (C:ag):JB C (.loop (ax [1,1,1,0,0,0,0,1,0,0,0] wO)):=
 cy IG [false,false,true,false] [[1,2,0,0,4]] (@wP C) (by kernel_rfl) (bh (bs:=[]) (by kernel_rfl) aw) (fun ds=>by kernel_rfl) (fun i x=>by kernel_rfl) (fun i x β k=>by kernel_rfl) (fun β ds k=>by kernel_rfl)
theorem acv (C:ag):JB C (.loop (ax [1,1,1,0,0,0] wO)):=
 cy IH [false,true,true,true] [[1,0,0,0,0]] (@Ae C) (by kernel_rfl) (bh (bs:=[.loop (ax [1,1,1,0,0,0,0,0,0,0] wO),.loop (ax [1,1,1,0,0,0,0,1,0,0,0] wO)]) (by kernel_rfl) (bH (acs C) (bH (acu C) aw))) (fun ds=>by kernel_rfl) (fun i x=>by kernel_rfl) (fun i x β k=>by kernel_rfl) (fun β ds k=>by kernel_rfl)
noncomputable def Q5 (C:ag) (a b' pivot:Int) (ak:List V):Option (List V):=
 bif (decide (0≤pivot))&&(decide (pivot<(ak.length:Int))) then
  (ak[(pivot:Int).toNat]?).bind fun x1=>
  bif (decide (0≤a))&&(decide (a<(ak.length:Int))) then
  (ak[(a:Int).toNat]?).bind fun x2=>
  bif (decide (0≤a))&&(decide (a<(ak.length:Int))) then
   (ak[(a:Int).toNat]?).bind fun x3=>
   bif (decide (0≤pivot))&&(decide (pivot<((ak.set ((a:Int).toNat) (.agg [.int .i64 ((x1.cell 0).toInt),.int .i64 ((x1.cell 1).toInt),.list aa ((x1.cell 2).toList)])).length:Int))) then
   ((ak.set ((a:Int).toNat) (.agg [.int .i64 ((x1.cell 0).toInt),.int .i64 ((x1.cell 1).toInt),.list aa ((x1.cell 2).toList)]))[(pivot:Int).toNat]?).bind fun x4=>
   (Loop (wR C a) (IntKind.wrap .i64 (a+1),IntKind.wrap .i64 (b'-1),(ak.set ((a:Int).toNat) (.agg [.int .i64 ((x1.cell 0).toInt),.int .i64 ((x1.cell 1).toInt),.list aa ((x1.cell 2).toList)])).set ((pivot:Int).toNat) (.agg [.int .i64 ((x2.cell 0).toInt),.int .i64 ((x2.cell 1).toInt),.list aa ((x2.cell 2).toList)]))).bind (un fun (acw:Int)=>un fun (ahB:Int)=>un fun (I0:Bool) (acx:List V)=>
    some [.int .i64 acw,.list aa acx])
   else none
  else none
  else none
 else none
theorem acy {a b' pivot:Int} {ak:List V} {r:Option (List V)} (h:Q5 CC a b' pivot ak=r):CC tz [.int .i64 a,.int .i64 b',.int .i64 pivot,.list aa ak]=r:=
 ba (key:=117) (L:=Q4 CC) (bs:=[.loop (ax [1,1,1,0,0,0] wO)]) (by kernel_rfl) (bH (acv CC) aw) (aX (by kernel_rfl) h)
noncomputable abbrev m9:Code:=cK Try.prog (az.aZ 116)
noncomputable def Af (C:ag) (a b' j:Int) (ak:List V) (i:Int) {β:Type} (kn:Int→Option β) (kr:(Int × Bool)→Option β):Option β:=
 bif decide ((i:Int)<b') then
  bif (decide (0≤i))&&(decide (i<(ak.length:Int))) then
  (ak[(i:Int).toNat]?).bind fun x1=>
  bif (decide (0≤(IntKind.wrap .i64 (i-1))))&&(decide ((IntKind.wrap .i64 (i-1))<(ak.length:Int))) then
   (ak[(IntKind.wrap .i64 (i-1):Int).toNat]?).bind fun x2=>
   (C a8 [.int .i64 ((x1.cell 0).toInt),.int .i64 ((x1.cell 1).toInt),.list aa ((x1.cell 2).toList),.int .i64 ((x2.cell 0).toInt),.int .i64 ((x2.cell 1).toInt),.list aa ((x2.cell 2).toList)]).bind fun r3=>
   bif !(decide ((((V.nth r3 0).toInt):Int)<0)) then
   kn (IntKind.wrap .i64 (i+1))
   else
   kr (i,!(decide ((((V.nth r3 0).toInt):Int)<0)))
  else none
  else none
 else
  kr (i,false)
noncomputable def Ag (C:ag) (a b' j:Int) (ak:List V):(Int)→Option ((Int) ⊕ (Int × Bool)):=fun i=>Af C a b' j ak i (fun y=>some (.inl y)) (fun r=>some (.inr r))
noncomputable def Ah (C:ag) (a b' i j j':Int) (ak:List V) {β:Type} (kn:(Int × (List V))→Option β) (kr:(Int × (List V))→Option β):Option β:=
 bif decide ((j':Int)≥1) then
  bif (decide (0≤j'))&&(decide (j'<(ak.length:Int))) then
  (ak[(j':Int).toNat]?).bind fun mZ=>
  bif (decide (0≤(IntKind.wrap .i64 (j'-1))))&&(decide ((IntKind.wrap .i64 (j'-1))<(ak.length:Int))) then
   (ak[(IntKind.wrap .i64 (j'-1):Int).toNat]?).bind fun eJ=>
   (C a8 [.int .i64 ((mZ.cell 0).toInt),.int .i64 ((mZ.cell 1).toInt),.list aa ((mZ.cell 2).toList),.int .i64 ((eJ.cell 0).toInt),.int .i64 ((eJ.cell 1).toInt),.list aa ((eJ.cell 2).toList)]).bind fun fA=>
   bif !(decide ((((V.nth fA 0).toInt):Int)<0)) then
   kr (j',ak)
   else
   bif (decide (0≤(IntKind.wrap .i64 (j'-1))))&&(decide ((IntKind.wrap .i64 (j'-1))<(ak.length:Int))) then
    (ak[(IntKind.wrap .i64 (j'-1):Int).toNat]?).bind fun jt=>
    bif (decide (0≤j'))&&(decide (j'<(ak.length:Int))) then
    (ak[(j':Int).toNat]?).bind fun m8=>
    bif (decide (0≤j'))&&(decide (j'<(ak.length:Int))) then
     (ak[(j':Int).toNat]?).bind fun fB=>
     bif (decide (0≤(IntKind.wrap .i64 (j'-1))))&&(decide ((IntKind.wrap .i64 (j'-1))<((ak.set ((j':Int).toNat) (.agg [.int .i64 ((jt.cell 0).toInt),.int .i64 ((jt.cell 1).toInt),.list aa ((jt.cell 2).toList)])).length:Int))) then
     ((ak.set ((j':Int).toNat) (.agg [.int .i64 ((jt.cell 0).toInt),.int .i64 ((jt.cell 1).toInt),.list aa ((jt.cell 2).toList)]))[(IntKind.wrap .i64 (j'-1):Int).toNat]?).bind fun gg=>
     kn (IntKind.wrap .i64 (j'-1),(ak.set ((j':Int).toNat) (.agg [.int .i64 ((jt.cell 0).toInt),.int .i64 ((jt.cell 1).toInt),.list aa ((jt.cell 2).toList)])).set ((IntKind.wrap .i64 (j'-1):Int).toNat) (.agg [.int .i64 ((m8.cell 0).toInt),.int .i64 ((m8.cell 1).toInt),.list aa ((m8.cell 2).toList)]))
     else none
    else none
    else none
   else none
  else none
  else none
 else
  kr (j',ak)
noncomputable def Ai (C:ag) (a b' i j:Int):(Int × (List V))→Option ((Int × (List V)) ⊕ (Int × (List V))):=un fun j' ak=>Ah C a b' i j j' ak (fun y=>some (.inl y)) (fun r=>some (.inr r))
noncomputable def Ep (C:ag) (a b' i j:Int) (t65:Bool) (ak:List V) {β:Type} (kr:(List V)→Option β):Option β:=
 bif t65 then
  (Loop (Ai C a b' i j) (IntKind.wrap .i64 (i-1),ak)).bind (un fun (ahC:Int) (acz:List V)=>
   kr acz)
 else
  kr ak
noncomputable def Aj (C:ag) (a b' i j j':Int) (ak:List V) {β:Type} (kn:(Int × (List V))→Option β) (kr:(Int × (List V))→Option β):Option β:=
 bif decide ((j':Int)<b') then
  bif (decide (0≤j'))&&(decide (j'<(ak.length:Int))) then
  (ak[(j':Int).toNat]?).bind fun tX=>
  bif (decide (0≤(IntKind.wrap .i64 (j'-1))))&&(decide ((IntKind.wrap .i64 (j'-1))<(ak.length:Int))) then
   (ak[(IntKind.wrap .i64 (j'-1):Int).toNat]?).bind fun Eo=>
   (C a8 [.int .i64 ((tX.cell 0).toInt),.int .i64 ((tX.cell 1).toInt),.list aa ((tX.cell 2).toList),.int .i64 ((Eo.cell 0).toInt),.int .i64 ((Eo.cell 1).toInt),.list aa ((Eo.cell 2).toList)]).bind fun jT=>
   bif !(decide ((((V.nth jT 0).toInt):Int)<0)) then
   kr (j',ak)
   else
   bif (decide (0≤(IntKind.wrap .i64 (j'-1))))&&(decide ((IntKind.wrap .i64 (j'-1))<(ak.length:Int))) then
    (ak[(IntKind.wrap .i64 (j'-1):Int).toNat]?).bind fun js=>
    bif (decide (0≤j'))&&(decide (j'<(ak.length:Int))) then
    (ak[(j':Int).toNat]?).bind fun tU=>
    bif (decide (0≤j'))&&(decide (j'<(ak.length:Int))) then
     (ak[(j':Int).toNat]?).bind fun x25=>
     bif (decide (0≤(IntKind.wrap .i64 (j'-1))))&&(decide ((IntKind.wrap .i64 (j'-1))<((ak.set ((j':Int).toNat) (.agg [.int .i64 ((js.cell 0).toInt),.int .i64 ((js.cell 1).toInt),.list aa ((js.cell 2).toList)])).length:Int))) then
     ((ak.set ((j':Int).toNat) (.agg [.int .i64 ((js.cell 0).toInt),.int .i64 ((js.cell 1).toInt),.list aa ((js.cell 2).toList)]))[(IntKind.wrap .i64 (j'-1):Int).toNat]?).bind fun x26=>
     kn (IntKind.wrap .i64 (j'+1),(ak.set ((j':Int).toNat) (.agg [.int .i64 ((js.cell 0).toInt),.int .i64 ((js.cell 1).toInt),.list aa ((js.cell 2).toList)])).set ((IntKind.wrap .i64 (j'-1):Int).toNat) (.agg [.int .i64 ((tU.cell 0).toInt),.int .i64 ((tU.cell 1).toInt),.list aa ((tU.cell 2).toList)]))
     else none
    else none
    else none
   else none
  else none
  else none
 else
  kr (j',ak)
noncomputable def Ak (C:ag) (a b' i j:Int):(Int × (List V))→Option ((Int × (List V)) ⊕ (Int × (List V))):=un fun j' ak=>Aj C a b' i j j' ak (fun y=>some (.inl y)) (fun r=>some (.inr r))
noncomputable def Al (C:ag) (a b' i j:Int) (ak:List V) {β:Type} (kn:(Int × Int × (List V))→Option β) (kr:((Bool × (List V)) ⊕ (Int × Int × Bool × (List V)))→Option β):Option β:=
 bif decide ((j:Int)<5) then
  (Loop (Ag C a b' j ak) i).bind (un fun (eW:Int) (o5:Bool)=>
   bif (eW:Int)==b' then
   kr (.inl (true,ak))
   else
   bif decide (((IntKind.wrap .i64 (b'-a)):Int)<50) then
    kr (.inl (false,ak))
   else
    bif (decide (0≤(IntKind.wrap .i64 (eW-1))))&&(decide ((IntKind.wrap .i64 (eW-1))<(ak.length:Int))) then
    (ak[(IntKind.wrap .i64 (eW-1):Int).toNat]?).bind fun x6=>
    bif (decide (0≤eW))&&(decide (eW<(ak.length:Int))) then
     (ak[(eW:Int).toNat]?).bind fun x7=>
     bif (decide (0≤eW))&&(decide (eW<(ak.length:Int))) then
     (ak[(eW:Int).toNat]?).bind fun x8=>
     bif (decide (0≤(IntKind.wrap .i64 (eW-1))))&&(decide ((IntKind.wrap .i64 (eW-1))<((ak.set ((eW:Int).toNat) (.agg [.int .i64 ((x6.cell 0).toInt),.int .i64 ((x6.cell 1).toInt),.list aa ((x6.cell 2).toList)])).length:Int))) then
      ((ak.set ((eW:Int).toNat) (.agg [.int .i64 ((x6.cell 0).toInt),.int .i64 ((x6.cell 1).toInt),.list aa ((x6.cell 2).toList)]))[(IntKind.wrap .i64 (eW-1):Int).toNat]?).bind fun x9=>
      Ep C a b' eW j (decide (((IntKind.wrap .i64 (eW-a)):Int)≥2)) ((ak.set ((eW:Int).toNat) (.agg [.int .i64 ((x6.cell 0).toInt),.int .i64 ((x6.cell 1).toInt),.list aa ((x6.cell 2).toList)])).set ((IntKind.wrap .i64 (eW-1):Int).toNat) (.agg [.int .i64 ((x7.cell 0).toInt),.int .i64 ((x7.cell 1).toInt),.list aa ((x7.cell 2).toList)])) (fun (Q6:List V)=>
       bif decide (((IntKind.wrap .i64 (b'-eW)):Int)≥2) then
       (Loop (Ak C a b' eW j) (IntKind.wrap .i64 (eW+1),Q6)).bind (un fun (ahD:Int) (acA:List V)=>
        kn (eW,IntKind.wrap .i64 (j+1),acA))
       else
       kn (eW,IntKind.wrap .i64 (j+1),Q6))
     else none
     else none
    else none
    else none)
 else
  kr (.inr (i,j,decide ((j:Int)<5),ak))
noncomputable def rP (C:ag) (a b':Int):(Int × Int × (List V))→Option ((Int × Int × (List V)) ⊕ ((Bool × (List V)) ⊕ (Int × Int × Bool × (List V)))):=un fun i=>un fun j ak=>Al C a b' i j ak (fun y=>some (.inl y)) (fun r=>some (.inr r))
noncomputable def Q7 (C:ag):cz:=fun β n ds k=>
 bif Nat.beq n 81 then cl IA [false,false,true,false,false] [[1,2,0,4,0,5]] (@Af C) ds k else
 bif Nat.beq n 225 then cl IB [false,false,false,false,true,true] [[1,2,3,4,0,0]] (@Ah C) ds k else
 bif Nat.beq n 1055 then iB IC [[1,2,3,4,0]] (@Ep C) ds k else
 bif Nat.beq n 321 then cl ID [false,false,false,false,true,true] [[1,2,3,4,0,0]] (@Aj C) ds k else
 bif Nat.beq n 49 then cl IE [false,false,true,true,true] [[0,0],[1,2,0,0,0,0]] (@Al C) ds k else
 none
abbrev Am (C:ag) (b:cw):Prop:=cx Try.prog az C (Q7 C) 116 (cN Try.prog (az.aZ 116)) (az.sin 116).a9.length b
theorem acB (C:ag):Am C (.loop (ax [1,1,0,1,0,0,1,0,0,0,0,0] m9)):=
 cy IA [false,false,true,false,false] [[1,2,0,4,0,5]] (@Af C) (by kernel_rfl) (bh (bs:=[]) (by kernel_rfl) aw) (fun ds=>by kernel_rfl) (fun i x=>by kernel_rfl) (fun i x β k=>by kernel_rfl) (fun β ds k=>by kernel_rfl)
theorem acC (C:ag):Am C (.loop (ax [1,1,0,1,0,0,1,0,0,1,1,1,1,0,1,0,1,0,0] m9)):=
 cy IB [false,false,false,false,true,true] [[1,2,3,4,0,0]] (@Ah C) (by kernel_rfl) (bh (bs:=[]) (by kernel_rfl) aw) (fun ds=>by kernel_rfl) (fun i x=>by kernel_rfl) (fun i x β k=>by kernel_rfl) (fun β ds k=>by kernel_rfl)
theorem acD (C:ag):Am C (.cond 65 (ax [1,1,0,1,0,0,1,0,0,1,1,1,1,0,1,0] m9) (ax [1,1,0,1,0,0,1,0,0,1,1,1,1,0,1,1] m9)):=
 iT IC [[1,2,3,4,0]] (@Ep C) (by kernel_rfl) (bh (bs:=[.loop (ax [1,1,0,1,0,0,1,0,0,1,1,1,1,0,1,0,1,0,0] m9)]) (by kernel_rfl) (bH (acC C) aw)) (bh (bs:=[]) (by kernel_rfl) aw) (fun ds=>by kernel_rfl) (fun i β k=>by kernel_rfl) (fun β ds k=>by kernel_rfl)
theorem acE (C:ag):Am C (.loop (ax [1,1,0,1,0,0,1,0,0,1,1,1,1,1,1,0,1,0,0] m9)):=
 cy ID [false,false,false,false,true,true] [[1,2,3,4,0,0]] (@Aj C) (by kernel_rfl) (bh (bs:=[]) (by kernel_rfl) aw) (fun ds=>by kernel_rfl) (fun i x=>by kernel_rfl) (fun i x β k=>by kernel_rfl) (fun β ds k=>by kernel_rfl)
theorem acF (C:ag):Am C (.loop (ax [1,1,0,1,0,0] m9)):=
 cy IE [false,false,true,true,true] [[0,0],[1,2,0,0,0,0]] (@Al C) (by kernel_rfl) (bh (bs:=[.loop (ax [1,1,0,1,0,0,1,0,0,0,0,0] m9),.cond 65 (ax [1,1,0,1,0,0,1,0,0,1,1,1,1,0,1,0] m9) (ax [1,1,0,1,0,0,1,0,0,1,1,1,1,0,1,1] m9),.loop (ax [1,1,0,1,0,0,1,0,0,1,1,1,1,1,1,0,1,0,0] m9)]) (by kernel_rfl) (bH (acB C) (bH (acD C) (bH (acE C) aw)))) (fun ds=>by kernel_rfl) (fun i x=>by kernel_rfl) (fun i x β k=>by kernel_rfl) (fun β ds k=>by kernel_rfl)
noncomputable def Q8 (C:ag) (a b':Int) (ak:List V):Option (List V):=
 (Loop (rP C a b') (IntKind.wrap .i64 (a+1),0,ak)).bind (b6 (un fun (Pd:Bool) (acG:List V)=>
  some [.bool Pd,.list aa acG]) (un fun (ahE:Int)=>un fun (ahF:Int)=>un fun (Pf:Bool) (acH:List V)=>
  some [.bool false,.list aa acH]))
theorem acI {a b':Int} {ak:List V} {r:Option (List V)} (h:Q8 CC a b' ak=r):CC DE [.int .i64 a,.int .i64 b',.list aa ak]=r:=
 ba (key:=116) (L:=Q7 CC) (bs:=[.loop (ax [1,1,0,1,0,0] m9)]) (by kernel_rfl) (bH (acF CC) aw) (aX (by kernel_rfl) h)
end Go.AM
set_option maxRecDepth 100000
set_option maxHeartbeats 4000000
namespace Go.AM.SX
open Go.Proofs Go.Sort
theorem wS (p:XE→Bool) (d:Array XE) (j i:Nat):scanUp p d j i=if i≤j then (if p d[i]! =true then scanUp p d j (i+1) else i) else i:=by
 conv=>lhs;rw[scanUp]
 by_cases h:i≤j
 ·rw[aj h];simp only[h,qI,mq]
 ·rw[ai h,ai (by simp[h])]
theorem JC (p:XE→Bool) (d:Array XE) (i j:Nat):scanDown p d i (j+1)=if i≤j+1 then (if p d[j+1]! =true then scanDown p d i j else j+1) else j+1:=by
 conv=>lhs;rw[scanDown]
 by_cases h:i≤j+1
 ·rw[aj h];simp only[h,qI,mq]
 ·rw[ai h,ai (by simp[h])]
theorem Er (d:Array XE) (b i:Nat):scanSorted ay d b i=if i<b then (if bN d[i]! d[i-1]! <0 then i else scanSorted ay d b (i+1)) else i:=by
 conv=>lhs;rw[scanSorted]
 by_cases h:i<b
 ·rw[aj h];simp only[h,qI,mq,qu]
  by_cases U:bN d[i]! d[i-1]! <0
  ·rw[ai (pw U),aj U]
  ·rw[aj U,ai U]
 ·rw[ai h,ai (by simp[h])]
theorem Q9 (j:Nat) (d:Array XE):shiftDown ay (j+1) d=if bN d[j+1]! d[j]! <0 then shiftDown ay j (swp d (j+1) j) else d:=by
 conv=>lhs;rw[shiftDown]
 simp only[qu]
 by_cases U:bN d[j+1]! d[j]! <0
 ·rw[ai (pw U),aj U]
 ·rw[aj U,ai U]
theorem Et (b j:Nat) (d:Array XE):shiftUp ay b j d=if j<b then (if bN d[j]! d[j-1]! <0 then shiftUp ay b (j+1) (swp d j (j-1)) else d) else d:=by
 conv=>lhs;rw[shiftUp]
 simp only[qu]
 by_cases h:j<b
 ·rw[aj h,aj h]
  by_cases U:bN d[j]! d[j-1]! <0
  ·rw[ai (pw U),aj U]
  ·rw[aj U,ai U]
 ·rw[ai h,ai h]
theorem acJ {a:Nat}: ∀(n i j:Nat) (d:Array XE),j+1-i≤n→(partLoop ay a i j d).2.size=d.size∧(partLoop ay a i j d).1≤j:=by
 intro n
 induction n with
 | zero=>
  intro i j d hn
  have h1:=scanUp_ge (fun x=>ay x d[a]!) d j i
  have U:=scanDown_le (fun x=> !ay x d[a]!) d (scanUp (fun x=>ay x d[a]!) d j i) j
  rw[partLoop_eq,aj (by omega)]
  exact ⟨rfl,U⟩
 | succ n ih=>
  intro i j d hn
  rw[partLoop_eq]
  have h1:=scanUp_ge (fun x=>ay x d[a]!) d j i
  have U:=scanDown_le (fun x=> !ay x d[a]!) d (scanUp (fun x=>ay x d[a]!) d j i) j
  split
  ·exact ⟨rfl,U⟩
  ·obtain ⟨h3,h4⟩:=ih (scanUp (fun x=>ay x d[a]!) d j i+1) (scanDown (fun x=> !ay x d[a]!) d (scanUp (fun x=>ay x d[a]!) d j i) j-1) (swp d (scanUp (fun x=>ay x d[a]!) d j i) (scanDown (fun x=> !ay x d[a]!) d (scanUp (fun x=>ay x d[a]!) d j i) j)) (by omega)
   exact ⟨by rw[h3,size_swp],by omega⟩
theorem jU {β:Type} {d:Array XE} {i:Nat} {x y:Option β} (h:i<d.size):(bif (decide (0≤(i:Int)))&&(decide ((i:Int)<((eA d).length:Int))) then x else y)=x:=by
 rw[fv,dh,aB,aj (by omega),aB,aj (by omega)]
theorem Eu {β:Type} {d:Array XE} {i k:Nat} {v:V} {x y:Option β} (h:i<d.size):(bif (decide (0≤(i:Int)))&&(decide ((i:Int)<(((eA d).set k v).length:Int))) then x else y)=x:=by
 rw[nn,fv,dh,aB,aj (by omega),aB,aj (by omega)]
theorem jV {β:Type} {d:Array XE} {i:Nat} {f:V→Option β} (h:i<d.size):((eA d)[(i:Int).toNat]?).bind f=f (d[i]!).enc:=by
 rw[Int.toNat_natCast,fx h];rfl
theorem Ev {β:Type} {d:Array XE} {i k:Nat} {v:V} {x:Option β} (h:i<d.size):(((eA d).set k v)[(i:Int).toNat]?).bind (fun _=>x)=x:=by
 rw[Int.toNat_natCast,bG (by rw[nn,fv];exact h)];rfl
theorem qw {β:Type} {d:Array XE} {i:Nat} {f:V→Option β} (h:i<d.size):((eA d)[i]?).bind f=f (d[i]!).enc:=by
 rw[fx h];rfl
theorem JD {β:Type} {d:Array XE} {i k:Nat} {v:V} {x:Option β} (h:i<d.size):(((eA d).set k v)[i]?).bind (fun _=>x)=x:=by
 rw[bG (by rw[nn,fv];exact h)];rfl
theorem acK {a j:Nat} {d:Array XE} (ha:a<d.size) (hj:j<d.size) (hs:d.size<1152921504606846976): ∀(n i:Nat),j+1-i=n→i≤d.size→
  ∃t,Loop (z7 CC a j (eA d)) (i:Int)=some (((scanUp (fun x=>ay x d[a]!) d j i:Nat):Int),t):=by
 intro n
 induction n with
 | zero=>
  intro i hn hi
  rw[wS,ai (by omega)]
  exact ⟨false,bd (by simp (disch:=omega) only[z7,z6,aB,ai])⟩
 | succ n ih=>
  intro i hn hi
  obtain ⟨t,h⟩:=ih (i+1) (by omega) (by omega)
  rw[wS,aj (by omega)]
  have e:z7 CC a j (eA d) (i:Int)=if bN d[i]! d[a]! <0 then some (.inl ((i+1:Nat):Int)) else some (.inr ((i:Int),decide (bN d[i]! d[a]! <0))):=by
   simp (disch:=omega) only[z7,z6,aB,dh,gD,aj,ai,wrap64,dy,fy,Int.toNat_natCast,Option.bind_some,fv,fx,XE.br,XE.bt,XE.bu,XE.re,fw,hO,gn,gf,V.aU,V.toInt_int,cond_true,cond_false]
  simp only[rO]
  by_cases U:bN d[i]! d[a]! <0
  ·rw[aj U] at e
   rw[aj U]
   exact ⟨t,(bU e).trans h⟩
  ·rw[ai U] at e
   rw[ai U]
   exact ⟨_,bd e⟩
theorem Ra {a j:Nat} {d:Array XE} (ha:a<d.size) (hj:j<d.size) (hs:d.size<1152921504606846976): ∀(n i:Nat),j+1-i=n→i≤d.size→
  ∃t,Loop (z9 CC a j (eA d)) (i:Int)=some (((scanUp (fun x=>ay x d[a]!) d j i:Nat):Int),t):=by
 intro n
 induction n with
 | zero=>
  intro i hn hi
  rw[wS,ai (by omega)]
  exact ⟨false,bd (by simp (disch:=omega) only[z9,z8,aB,ai])⟩
 | succ n ih=>
  intro i hn hi
  obtain ⟨t,h⟩:=ih (i+1) (by omega) (by omega)
  rw[wS,aj (by omega)]
  have e:z9 CC a j (eA d) (i:Int)=if bN d[i]! d[a]! <0 then some (.inl ((i+1:Nat):Int)) else some (.inr ((i:Int),decide (bN d[i]! d[a]! <0))):=by
   simp (disch:=omega) only[z9,z8,aB,dh,gD,aj,ai,wrap64,dy,fy,Int.toNat_natCast,Option.bind_some,fv,fx,XE.br,XE.bt,XE.bu,XE.re,fw,hO,gn,gf,V.aU,V.toInt_int,cond_true,cond_false]
  simp only[rO]
  by_cases U:bN d[i]! d[a]! <0
  ·rw[aj U] at e
   rw[aj U]
   exact ⟨t,(bU e).trans h⟩
  ·rw[ai U] at e
   rw[ai U]
   exact ⟨_,bd e⟩
theorem Rb {a i:Nat} {d:Array XE} (ha:a<d.size) (hi:1≤i) (hs:d.size<1152921504606846976): ∀(j:Nat),j<d.size→
  ∃t,Loop (wJ CC a i (eA d)) (j:Int)=some (((scanDown (fun x=> !ay x d[a]!) d i j:Nat):Int),t)
 | 0,hj=>⟨false,bd (by simp (disch:=omega) only[wJ,wI,aB,ai];rfl)⟩
 | j+1,hj=>by
  obtain ⟨t,h⟩:=Rb ha hi hs j (by omega)
  rw[JC]
  by_cases h1:i≤j+1
  ·rw[aj h1]
   have e:wJ CC a i (eA d) ((j+1:Nat):Int)=if bN d[j+1]! d[a]! <0 then some (.inr (((j+1:Nat):Int),!decide (bN d[j+1]! d[a]! <0))) else some (.inl (j:Int)):=by
    simp (disch:=omega) only[wJ,wI,aB,dh,gD,aj,ai,wrap64,dy,fy,Int.toNat_natCast,Option.bind_some,fv,fx,XE.br,XE.bt,XE.bu,XE.re,fw,hO,gn,gf,V.aU,V.toInt_int,cond_true,cond_false,tS]
   simp only[qu]
   by_cases U:bN d[j+1]! d[a]! <0
   ·rw[aj U] at e
    rw[ai (pw U)]
    exact ⟨_,bd e⟩
   ·rw[ai U] at e
    rw[aj U]
    exact ⟨t,(bU e).trans h⟩
  ·rw[ai h1]
   exact ⟨false,bd (by simp (disch:=omega) only[wJ,wI,aB,ai])⟩
theorem JE {a i:Nat} {d:Array XE} (ha:a<d.size) (hi:1≤i) (hs:d.size<1152921504606846976): ∀(j:Nat),j<d.size→
  ∃t,Loop (wL CC a i (eA d)) (j:Int)=some (((scanDown (fun x=> !ay x d[a]!) d i j:Nat):Int),t)
 | 0,hj=>⟨false,bd (by simp (disch:=omega) only[wL,wK,aB,ai];rfl)⟩
 | j+1,hj=>by
  obtain ⟨t,h⟩:=JE ha hi hs j (by omega)
  rw[JC]
  by_cases h1:i≤j+1
  ·rw[aj h1]
   have e:wL CC a i (eA d) ((j+1:Nat):Int)=if bN d[j+1]! d[a]! <0 then some (.inr (((j+1:Nat):Int),!decide (bN d[j+1]! d[a]! <0))) else some (.inl (j:Int)):=by
    simp (disch:=omega) only[wL,wK,aB,dh,gD,aj,ai,wrap64,dy,fy,Int.toNat_natCast,Option.bind_some,fv,fx,XE.br,XE.bt,XE.bu,XE.re,fw,hO,gn,gf,V.aU,V.toInt_int,cond_true,cond_false,tS]
   simp only[qu]
   by_cases U:bN d[j+1]! d[a]! <0
   ·rw[aj U] at e
    rw[ai (pw U)]
    exact ⟨_,bd e⟩
   ·rw[ai U] at e
    rw[aj U]
    exact ⟨t,(bU e).trans h⟩
  ·rw[ai h1]
   exact ⟨false,bd (by simp (disch:=omega) only[wL,wK,aB,ai])⟩
theorem Rc {a j:Nat} {d:Array XE} (ha:a<d.size) (hj:j<d.size) (hs:d.size<1152921504606846976): ∀(n i:Nat),j+1-i=n→i≤d.size→
  ∃t,Loop (Ad CC a j (eA d)) (i:Int)=some (((scanUp (fun x=> !ay d[a]! x) d j i:Nat):Int),t):=by
 intro n
 induction n with
 | zero=>
  intro i hn hi
  rw[wS,ai (by omega)]
  exact ⟨false,bd (by simp (disch:=omega) only[Ad,Ac,aB,ai])⟩
 | succ n ih=>
  intro i hn hi
  obtain ⟨t,h⟩:=ih (i+1) (by omega) (by omega)
  rw[wS,aj (by omega)]
  have e:Ad CC a j (eA d) (i:Int)=if bN d[a]! d[i]! <0 then some (.inr ((i:Int),!decide (bN d[a]! d[i]! <0))) else some (.inl ((i+1:Nat):Int)):=by
   simp (disch:=omega) only[Ad,Ac,aB,dh,gD,aj,ai,wrap64,dy,fy,Int.toNat_natCast,Option.bind_some,fv,fx,XE.br,XE.bt,XE.bu,XE.re,fw,hO,gn,gf,V.aU,V.toInt_int,cond_true,cond_false]
  simp only[qu]
  by_cases U:bN d[a]! d[i]! <0
  ·rw[aj U] at e
   rw[ai (pw U)]
   exact ⟨_,bd e⟩
  ·rw[ai U] at e
   rw[aj U]
   exact ⟨t,(bU e).trans h⟩
theorem JF {a i:Nat} {d:Array XE} (ha:a<d.size) (hi:1≤i) (hs:d.size<1152921504606846976): ∀(j:Nat),j<d.size→
  ∃t,Loop (wQ CC a i (eA d)) (j:Int)=some (((scanDown (fun x=>ay d[a]! x) d i j:Nat):Int),t)
 | 0,hj=>⟨false,bd (by simp (disch:=omega) only[wQ,wP,aB,ai];rfl)⟩
 | j+1,hj=>by
  obtain ⟨t,h⟩:=JF ha hi hs j (by omega)
  rw[JC]
  by_cases h1:i≤j+1
  ·rw[aj h1]
   have e:wQ CC a i (eA d) ((j+1:Nat):Int)=if bN d[a]! d[j+1]! <0 then some (.inl (j:Int)) else some (.inr (((j+1:Nat):Int),decide (bN d[a]! d[j+1]! <0))):=by
    simp (disch:=omega) only[wQ,wP,aB,dh,gD,aj,ai,wrap64,dy,fy,Int.toNat_natCast,Option.bind_some,fv,fx,XE.br,XE.bt,XE.bu,XE.re,fw,hO,gn,gf,V.aU,V.toInt_int,cond_true,cond_false,tS]
   simp only[rO]
   by_cases U:bN d[a]! d[j+1]! <0
   ·rw[aj U] at e
    rw[aj U]
    exact ⟨t,(bU e).trans h⟩
   ·rw[ai U] at e
    rw[ai U]
    exact ⟨_,bd e⟩
  ·rw[ai h1]
   exact ⟨false,bd (by simp (disch:=omega) only[wQ,wP,aB,ai])⟩
theorem acL {a:Nat}: ∀(n i j:Nat) (d:Array XE),j+1-i≤n→1≤i→i≤d.size→a<d.size→j<d.size→d.size<1152921504606846976→
  ∃x z,Loop (wM CC a) ((i:Int),(j:Int),eA d)=some (x,(((partLoop ay a i j d).1:Nat):Int),z,eA (partLoop ay a i j d).2):=by
 intro n
 induction n with
 | zero=>
  intro i j d hn h1 U ha hj hs
  obtain ⟨t3,e3⟩:=Ra (a:=a) ha hj hs _ i rfl U
  have g1:=scanUp_ge (fun x=>ay x d[a]!) d j i
  have g2:=scanDown_le (fun x=> !ay x d[a]!) d (scanUp (fun x=>ay x d[a]!) d j i) j
  obtain ⟨t4,e4⟩:=JE (a:=a) (i:=scanUp (fun x=>ay x d[a]!) d j i) ha (by omega) hs j hj
  rw[partLoop_eq,aj (by omega)]
  refine ⟨((scanUp (fun x=>ay x d[a]!) d j i:Nat):Int),true,bd ?_⟩
  simp only[wM,Aa,un]
  rw[e3]
  simp only[Option.bind_some,un]
  rw[e4]
  simp (disch:=omega) only[Option.bind_some,un,mX,cond_true]
 | succ n ih=>
  intro i j d hn h1 U ha hj hs
  obtain ⟨t3,e3⟩:=Ra (a:=a) ha hj hs _ i rfl U
  have g1:=scanUp_ge (fun x=>ay x d[a]!) d j i
  have g2:=scanDown_le (fun x=> !ay x d[a]!) d (scanUp (fun x=>ay x d[a]!) d j i) j
  obtain ⟨t4,e4⟩:=JE (a:=a) (i:=scanUp (fun x=>ay x d[a]!) d j i) ha (by omega) hs j hj
  rw[partLoop_eq]
  have f:wM CC a ((i:Int),(j:Int),eA d)=wM CC a ((i:Int),(j:Int),eA d):=rfl
  conv at f=>rhs;simp only[wM,Aa,un];rw[e3];simp only[Option.bind_some,un];rw[e4];simp only[Option.bind_some,un]
  generalize gz:scanUp (fun x=>ay x d[a]!) d j i=i2 at*
  generalize fI:scanDown (fun x=> !ay x d[a]!) d i2 j=j2 at*
  by_cases h:i2>j2
  ·rw[aj h]
   refine ⟨(i2:Int),true,bd (f.trans ?_)⟩
   simp (disch:=omega) only[Option.bind_some,mX,cond_true]
  ·rw[ai h]
   obtain ⟨x,z,e⟩:=ih (i2+1) (j2-1) (swp d i2 j2) (by omega) (by omega) (by rw[size_swp];omega) (by rw[size_swp];omega) (by rw[size_swp];omega) (by rw[size_swp];omega)
   refine ⟨x,z,(bU (f.trans ?_)).trans e⟩
   simp (disch:=omega) only[aB,dh,gD,aj,ai,wrap64,dy,fy,Int.toNat_natCast,Option.bind_some,fv,fx,XE.br,XE.bt,XE.bu,XE.re,fw,hO,gn,gf,V.aU,V.toInt_int,cond_true,cond_false,jS]
   rfl
theorem acM (d:Array XE) (a b pivot:Nat):partition ay d a b pivot=
  if scanUp (fun x=>ay x (swp d a pivot)[a]!) (swp d a pivot) (b-1) (a+1)>scanDown (fun x=> !ay x (swp d a pivot)[a]!) (swp d a pivot) (scanUp (fun x=>ay x (swp d a pivot)[a]!) (swp d a pivot) (b-1) (a+1)) (b-1) then
   (scanDown (fun x=> !ay x (swp d a pivot)[a]!) (swp d a pivot) (scanUp (fun x=>ay x (swp d a pivot)[a]!) (swp d a pivot) (b-1) (a+1)) (b-1),true,swp (swp d a pivot) (scanDown (fun x=> !ay x (swp d a pivot)[a]!) (swp d a pivot) (scanUp (fun x=>ay x (swp d a pivot)[a]!) (swp d a pivot) (b-1) (a+1)) (b-1)) a)
  else
   ((partLoop ay a (scanUp (fun x=>ay x (swp d a pivot)[a]!) (swp d a pivot) (b-1) (a+1)+1) (scanDown (fun x=> !ay x (swp d a pivot)[a]!) (swp d a pivot) (scanUp (fun x=>ay x (swp d a pivot)[a]!) (swp d a pivot) (b-1) (a+1)) (b-1)-1) (swp (swp d a pivot) (scanUp (fun x=>ay x (swp d a pivot)[a]!) (swp d a pivot) (b-1) (a+1)) (scanDown (fun x=> !ay x (swp d a pivot)[a]!) (swp d a pivot) (scanUp (fun x=>ay x (swp d a pivot)[a]!) (swp d a pivot) (b-1) (a+1)) (b-1)))).1,false,
    swp (partLoop ay a (scanUp (fun x=>ay x (swp d a pivot)[a]!) (swp d a pivot) (b-1) (a+1)+1) (scanDown (fun x=> !ay x (swp d a pivot)[a]!) (swp d a pivot) (scanUp (fun x=>ay x (swp d a pivot)[a]!) (swp d a pivot) (b-1) (a+1)) (b-1)-1) (swp (swp d a pivot) (scanUp (fun x=>ay x (swp d a pivot)[a]!) (swp d a pivot) (b-1) (a+1)) (scanDown (fun x=> !ay x (swp d a pivot)[a]!) (swp d a pivot) (scanUp (fun x=>ay x (swp d a pivot)[a]!) (swp d a pivot) (b-1) (a+1)) (b-1)))).2
    (partLoop ay a (scanUp (fun x=>ay x (swp d a pivot)[a]!) (swp d a pivot) (b-1) (a+1)+1) (scanDown (fun x=> !ay x (swp d a pivot)[a]!) (swp d a pivot) (scanUp (fun x=>ay x (swp d a pivot)[a]!) (swp d a pivot) (b-1) (a+1)) (b-1)-1) (swp (swp d a pivot) (scanUp (fun x=>ay x (swp d a pivot)[a]!) (swp d a pivot) (b-1) (a+1)) (scanDown (fun x=> !ay x (swp d a pivot)[a]!) (swp d a pivot) (scanUp (fun x=>ay x (swp d a pivot)[a]!) (swp d a pivot) (b-1) (a+1)) (b-1)))).1 a):=rfl
theorem wU (d:Array XE) (i j:Nat):eA ((d.setIfInBounds i d[j]!).setIfInBounds j d[i]!)=eA (swp d i j):=rfl
theorem acN {a b pivot:Nat} {d:Array XE} (hp:pivot<b) (eQ:a<b) (hb:b≤d.size) (hs:d.size<1152921504606846976):
  CC mS [.int .i64 (a:Int),.int .i64 (b:Int),.int .i64 (pivot:Int),.list aa (eA d)]=
   some [.int .i64 ((partition ay d a b pivot).1:Int),.bool (partition ay d a b pivot).2.1,.list aa (eA (partition ay d a b pivot).2.2)]:=by
 refine acr ?_
 unfold Q3
 have z1:(swp d a pivot).size=d.size:=size_swp ..
 obtain ⟨t1,e1⟩:=acK (a:=a) (j:=b-1) (d:=swp d a pivot) (by omega) (by omega) (by omega) _ (a+1) rfl (by omega)
 have g1:=scanUp_ge (fun x=>ay x (swp d a pivot)[a]!) (swp d a pivot) (b-1) (a+1)
 have g2:=scanDown_le (fun x=> !ay x (swp d a pivot)[a]!) (swp d a pivot) (scanUp (fun x=>ay x (swp d a pivot)[a]!) (swp d a pivot) (b-1) (a+1)) (b-1)
 obtain ⟨t2,e2⟩:=Rb (a:=a) (i:=scanUp (fun x=>ay x (swp d a pivot)[a]!) (swp d a pivot) (b-1) (a+1)) (d:=swp d a pivot) (by omega) (by omega) (by omega) (b-1) (by omega)
 have e0:=acM d a b pivot
 rw[jU (i:=pivot) (by omega),jV (by omega),jU (i:=a) (by omega),jV (by omega),jU (i:=a) (by omega),jV (by omega),Eu (i:=pivot) (by omega),Ev (by omega)]
 simp only[XE.br,XE.bt,XE.bu,XE.re,Int.toNat_natCast,fw,wU]
 simp (disch:=omega) only[jS,dy,wrap64]
 rw[e1]
 simp only[Option.bind_some,un]
 rw[e2]
 simp only[Option.bind_some,un]
 generalize gz:scanUp (fun x=>ay x (swp d a pivot)[a]!) (swp d a pivot) (b-1) (a+1)=i2 at*
 generalize fI:scanDown (fun x=> !ay x (swp d a pivot)[a]!) (swp d a pivot) i2 (b-1)=j2 at*
 generalize swp d a pivot=d1 at*
 by_cases h:i2>j2
 ·rw[aj h] at e0
  rw[e0,aB,aj (by omega)]
  rw[jU (i:=a) (by omega)];(first|rw[jV (by omega)]|rw[qw (by omega)]);rw[jU (i:=j2) (by omega)];(first|rw[jV (by omega)]|rw[qw (by omega)]);rw[jU (i:=j2) (by omega)];(first|rw[jV (by omega)]|rw[qw (by omega)]);rw[Eu (i:=a) (by omega)];(first|rw[Ev (by omega)]|rw[JD (by omega)])
  simp only[XE.br,XE.bt,XE.bu,XE.re,Int.toNat_natCast,fw,wU]
 ·rw[ai h] at e0
  rw[e0,aB,ai (by omega)]
  have z2:(swp d1 i2 j2).size=d1.size:=size_swp ..
  obtain ⟨x,z,e5⟩:=acL (a:=a) _ (i2+1) (j2-1) (swp d1 i2 j2) (b7 _) (by omega) (by omega) (by omega) (by omega) (by omega)
  obtain ⟨q1,q2⟩:=acJ (a:=a) _ (i2+1) (j2-1) (swp d1 i2 j2) (b7 _)
  rw[jU (i:=j2) (by omega)];(first|rw[jV (by omega)]|rw[qw (by omega)]);rw[jU (i:=i2) (by omega)];(first|rw[jV (by omega)]|rw[qw (by omega)]);rw[jU (i:=i2) (by omega)];(first|rw[jV (by omega)]|rw[qw (by omega)]);rw[Eu (i:=j2) (by omega)];(first|rw[Ev (by omega)]|rw[JD (by omega)])
  simp only[XE.br,XE.bt,XE.bu,XE.re,Int.toNat_natCast,fw,wU]
  simp (disch:=omega) only[jS,dy,wrap64]
  rw[e5]
  generalize partLoop ay a (i2+1) (j2-1) (swp d1 i2 j2)=r at*
  simp only[Option.bind_some,un]
  rw[jU (i:=a) (by omega)];(first|rw[jV (by omega)]|rw[qw (by omega)]);rw[jU (i:=r.1) (by omega)];(first|rw[jV (by omega)]|rw[qw (by omega)]);rw[jU (i:=r.1) (by omega)];(first|rw[jV (by omega)]|rw[qw (by omega)]);rw[Eu (i:=a) (by omega)];(first|rw[Ev (by omega)]|rw[JD (by omega)])
  simp only[XE.br,XE.bt,XE.bu,XE.re,Int.toNat_natCast,fw,wU]
theorem acO {a:Nat}: ∀(n i j:Nat) (d:Array XE),j+1-i≤n→1≤i→i≤d.size→a<d.size→j<d.size→d.size<1152921504606846976→
  ∃x z,Loop (wR CC a) ((i:Int),(j:Int),eA d)=some ((((partEqLoop ay a i j d).1:Nat):Int),x,z,eA (partEqLoop ay a i j d).2):=by
 intro n
 induction n with
 | zero=>
  intro i j d hn h1 U ha hj hs
  obtain ⟨t3,e3⟩:=Rc (a:=a) ha hj hs _ i rfl U
  have g1:=scanUp_ge (fun x=> !ay d[a]! x) d j i
  have g2:=scanDown_le (fun x=>ay d[a]! x) d (scanUp (fun x=> !ay d[a]! x) d j i) j
  obtain ⟨t4,e4⟩:=JF (a:=a) (i:=scanUp (fun x=> !ay d[a]! x) d j i) ha (by omega) hs j hj
  rw[partEqLoop_eq,aj (by omega)]
  refine ⟨((scanDown (fun x=>ay d[a]! x) d (scanUp (fun x=> !ay d[a]! x) d j i) j:Nat):Int),true,bd ?_⟩
  simp only[wR,Ae,un]
  rw[e3]
  simp only[Option.bind_some,un]
  rw[e4]
  simp (disch:=omega) only[Option.bind_some,un,mX,cond_true]
 | succ n ih=>
  intro i j d hn h1 U ha hj hs
  obtain ⟨t3,e3⟩:=Rc (a:=a) ha hj hs _ i rfl U
  have g1:=scanUp_ge (fun x=> !ay d[a]! x) d j i
  have g2:=scanDown_le (fun x=>ay d[a]! x) d (scanUp (fun x=> !ay d[a]! x) d j i) j
  obtain ⟨t4,e4⟩:=JF (a:=a) (i:=scanUp (fun x=> !ay d[a]! x) d j i) ha (by omega) hs j hj
  rw[partEqLoop_eq]
  have f:wR CC a ((i:Int),(j:Int),eA d)=wR CC a ((i:Int),(j:Int),eA d):=rfl
  conv at f=>rhs;simp only[wR,Ae,un];rw[e3];simp only[Option.bind_some,un];rw[e4];simp only[Option.bind_some,un]
  generalize gz:scanUp (fun x=> !ay d[a]! x) d j i=i2 at*
  generalize fI:scanDown (fun x=>ay d[a]! x) d i2 j=j2 at*
  by_cases h:i2>j2
  ·rw[aj h]
   refine ⟨(j2:Int),true,bd (f.trans ?_)⟩
   simp (disch:=omega) only[Option.bind_some,mX,cond_true]
  ·rw[ai h]
   obtain ⟨x,z,e⟩:=ih (i2+1) (j2-1) (swp d i2 j2) (by omega) (by omega) (by rw[size_swp];omega) (by rw[size_swp];omega) (by rw[size_swp];omega) (by rw[size_swp];omega)
   refine ⟨x,z,(bU (f.trans ?_)).trans e⟩
   simp (disch:=omega) only[aB,dh,gD,aj,ai,wrap64,dy,fy,Int.toNat_natCast,Option.bind_some,fv,fx,XE.br,XE.bt,XE.bu,XE.re,fw,hO,gn,gf,V.aU,V.toInt_int,cond_true,cond_false,jS]
   rfl
theorem acP {a b pivot:Nat} {d:Array XE} (hp:pivot<b) (eQ:a<b) (hb:b≤d.size) (hs:d.size<1152921504606846976):
  CC tz [.int .i64 (a:Int),.int .i64 (b:Int),.int .i64 (pivot:Int),.list aa (eA d)]=
   some [.int .i64 ((partitionEqual ay d a b pivot).1:Int),.list aa (eA (partitionEqual ay d a b pivot).2)]:=by
 refine acy ?_
 unfold Q5
 have z1:(swp d a pivot).size=d.size:=size_swp ..
 obtain ⟨x,z,e⟩:=acO (a:=a) _ (a+1) (b-1) (swp d a pivot) (b7 _) (by omega) (by omega) (by omega) (by omega) (by omega)
 simp (disch:=omega) only[aB,dh,aj,fv,fx,Int.toNat_natCast,Option.bind_some,XE.br,XE.bt,XE.bu,XE.re,fw,hO,gn,jS,dy,wrap64,wU]
 rw[e]
 rfl
theorem acQ {a b j:Nat} {d:Array XE} (hb:b≤d.size) (hs:d.size<1152921504606846976): ∀(n i:Nat),b-i=n→1≤i→i≤b→
  ∃t,Loop (Ag CC a b j (eA d)) (i:Int)=some (((scanSorted ay d b i:Nat):Int),t):=by
 intro n
 induction n with
 | zero=>
  intro i hn h1 hi
  rw[Er,ai (by omega)]
  exact ⟨false,bd (by simp (disch:=omega) only[Ag,Af,aB,ai])⟩
 | succ n ih=>
  intro i hn h1 hi
  obtain ⟨t,h⟩:=ih (i+1) (by omega) (by omega) (by omega)
  rw[Er,aj (by omega)]
  have e:Ag CC a b j (eA d) (i:Int)=if bN d[i]! d[i-1]! <0 then some (.inr ((i:Int),!decide (bN d[i]! d[i-1]! <0))) else some (.inl ((i+1:Nat):Int)):=by
   simp (disch:=omega) only[Ag,Af,jS,aB,dh,gD,aj,ai,wrap64,dy,fy,Int.toNat_natCast,Option.bind_some,fv,fx,XE.br,XE.bt,XE.bu,XE.re,fw,hO,gn,gf,V.aU,V.toInt_int,cond_true,cond_false]
  by_cases U:bN d[i]! d[i-1]! <0
  ·rw[aj U] at e⊢
   exact ⟨_,bd e⟩
  ·rw[ai U] at e⊢
   exact ⟨t,(bU e).trans h⟩
theorem Re: ∀(j:Nat) (d:Array XE),(shiftDown ay j d).size=d.size
 | 0,_=>rfl
 | j+1,d=>by
  rw[Q9]
  split
  ·rw[Re j,size_swp]
  ·rfl
theorem acR {b:Nat}: ∀(n j:Nat) (d:Array XE),b-j=n→(shiftUp ay b j d).size=d.size:=by
 intro n
 induction n with
 | zero=>intro j d h;rw[Et,ai (by omega)]
 | succ n ih=>
  intro j d h
  rw[Et,aj (by omega)]
  split
  ·rw[ih _ _ (by omega),size_swp]
  ·rfl
theorem Rf {a b i k:Nat}: ∀(j:Nat) (d:Array XE),j<d.size→d.size<1152921504606846976→
  ∃t,Loop (Ai CC a b i k) ((j:Int),eA d)=some (t,eA (shiftDown ay j d))
 | 0,d,hj,hs=>⟨(0:Nat),bd (by
   simp (disch:=omega) only[Ai,Ah,un,aB,ai]
   rfl)⟩
 | j+1,d,hj,hs=>by
  obtain ⟨t,ih⟩:=Rf (a:=a) (b:=b) (i:=i) (k:=k) j (swp d (j+1) j) (by rw[size_swp];omega) (by rw[size_swp];omega)
  rw[Q9]
  have e:Ai CC a b i k (((j+1:Nat):Int),eA d)=if bN d[j+1]! d[j]! <0 then some (.inl ((j:Int),eA (swp d (j+1) j))) else some (.inr (((j+1:Nat):Int),eA d)):=by
   simp (disch:=omega) only[Ai,Ah,un,aB,dh,gD,aj,ai,wrap64,dy,fy,Int.toNat_natCast,Option.bind_some,fv,fx,XE.br,XE.bt,XE.bu,XE.re,fw,hO,gn,gf,V.aU,V.toInt_int,cond_true,cond_false,tS]
   rfl
  by_cases U:bN d[j+1]! d[j]! <0
  ·rw[aj U] at e⊢
   exact ⟨t,(bU e).trans ih⟩
  ·rw[ai U] at e⊢
   exact ⟨_,bd e⟩
theorem acS {a b i k:Nat}: ∀(n j:Nat) (d:Array XE),b-j=n→1≤j→j≤b→b≤d.size→d.size<1152921504606846976→
  ∃t,Loop (Ak CC a b i k) ((j:Int),eA d)=some (t,eA (shiftUp ay b j d)):=by
 intro n
 induction n with
 | zero=>
  intro j d hn h1 hj hb hs
  rw[Et,ai (by omega)]
  exact ⟨(j:Int),bd (by
   simp (disch:=omega) only[Ak,Aj,un,aB,ai])⟩
 | succ n ih=>
  intro j d hn h1 hj hb hs
  obtain ⟨t,h⟩:=ih (j+1) (swp d j (j-1)) (by omega) (by omega) (by omega) (by rw[size_swp];omega) (by rw[size_swp];omega)
  rw[Et,aj (by omega)]
  have e:Ak CC a b i k ((j:Int),eA d)=if bN d[j]! d[j-1]! <0 then some (.inl (((j+1:Nat):Int),eA (swp d j (j-1)))) else some (.inr ((j:Int),eA d)):=by
   simp (disch:=omega) only[Ak,Aj,un,jS,aB,dh,gD,aj,ai,wrap64,dy,fy,Int.toNat_natCast,Option.bind_some,fv,fx,XE.br,XE.bt,XE.bu,XE.re,fw,hO,gn,gf,V.aU,V.toInt_int,cond_true,cond_false]
   rfl
  by_cases U:bN d[j]! d[j-1]! <0
  ·rw[aj U] at e⊢
   exact ⟨t,(bU e).trans h⟩
  ·rw[ai U] at e⊢
   exact ⟨_,bd e⟩
theorem acT {d:Array XE} {b:Nat}: ∀(n i:Nat),b-i=n→i≤b→i≤scanSorted ay d b i∧scanSorted ay d b i≤b:=by
 intro n
 induction n with
 | zero=>intro i hn hi;rw[Er,ai (by omega)];omega
 | succ n ih=>
  intro i hn hi
  rw[Er,aj (by omega)]
  obtain ⟨h1,U⟩:=ih (i+1) (by omega) (by omega)
  split<;>omega
theorem acU {a b:Nat}: ∀(s i:Nat) (d:Array XE),s≤5→a<i→i≤b→b≤d.size→d.size<1152921504606846976→
  (Loop (rP CC a b) ((i:Int),((5-s:Nat):Int),eA d)=some (.inl ((partialIns ay a b s i d).2,eA (partialIns ay a b s i d).1)))∨
  (∃x y z,(partialIns ay a b s i d).2=false∧Loop (rP CC a b) ((i:Int),((5-s:Nat):Int),eA d)=some (.inr (x,y,z,eA (partialIns ay a b s i d).1))):=by
 intro s
 induction s with
 | zero=>
  intro i d hs5 hi JG hb hs
  refine .inr ⟨(i:Int),((5:Nat):Int),false,rfl,bd ?_⟩
  simp (disch:=omega) only[rP,Al,un,rM,cond_false]
  rfl
 | succ s ih=>
  intro i d hs5 hi JG hb hs
  obtain ⟨t1,e1⟩:=acQ (a:=a) (j:=5-(s+1)) hb hs _ i rfl (by omega) JG
  obtain ⟨q1,q2⟩:=acT (d:=d) _ i rfl JG
  rw[partialIns_succ]
  have f:rP CC a b ((i:Int),((5-(s+1):Nat):Int),eA d)=rP CC a b ((i:Int),((5-(s+1):Nat):Int),eA d):=rfl
  conv at f=>rhs;simp only[rP,Al,un];rw[aB,aj (by omega),e1];simp only[Option.bind_some,un]
  generalize scanSorted ay d b i=k at*
  by_cases h1:k=b
  ·rw[aj h1]
   left
   refine bd (f.trans ?_)
   rw[eT,aj (by omega)]
  ·rw[ai h1]
   by_cases U:b-a<50
   ·rw[aj U]
    left
    refine bd (f.trans ?_)
    rw[eT,ai (by omega),wrap64 (by omega) (by omega),aB,aj (by omega)]
   ·rw[ai U]
    have z1:(swp d k (k-1)).size=d.size:=size_swp ..
    have z2:(fixDown ay a k (swp d k (k-1))).size=d.size:=by
     unfold fixDown
     split
     ·rw[Re,z1]
     ·exact z1
    have z3:(fixUp ay b k (fixDown ay a k (swp d k (k-1)))).size=d.size:=by
     unfold fixUp
     split
     ·rw[acR _ _ _ rfl,z2]
     ·exact z2
    obtain ⟨t2,e2⟩:=Rf (a:=a) (b:=b) (i:=k) (k:=5-(s+1)) (k-1) (swp d k (k-1)) (by omega) (by omega)
    obtain ⟨t4,e4⟩:=acS (a:=a) (b:=b) (i:=k) (k:=5-(s+1)) _ (k+1) (fixDown ay a k (swp d k (k-1))) rfl (by omega) (by omega) (by omega) (by omega)
    have e5:rP CC a b ((i:Int),((5-(s+1):Nat):Int),eA d)=some (.inl ((k:Int),((5-s:Nat):Int),eA (fixUp ay b k (fixDown ay a k (swp d k (k-1)))))):=by
     refine f.trans ?_
     rw[eT,ai (by omega),wrap64 (by omega) (by omega),aB,ai (by omega)]
     simp (disch:=omega) only[aB,dh,aj,fv,fx,Int.toNat_natCast,Option.bind_some,XE.br,XE.bt,XE.bu,XE.re,fw,hO,gn,jS,dy,mc,wrap64,wU,Ep]
     rw[show 5-(s+1)+1=5-s by omega]
     unfold fixDown at e4⊢
     unfold fixUp
     have c1:(((k-a:Nat):Int)≥2)=(k-a≥2):=propext (by omega)
     have c2:(((b-k:Nat):Int)≥2)=(b-k≥2):=propext (by omega)
     simp only[c1,c2]
     by_cases g1:k-a≥2
     ·by_cases g2:b-k≥2
      ·simp only[g1,g2,dc,e2,Option.bind_some,un] at e4⊢
       rw[e4]
       rfl
      ·simp only[g1,g2,dc,fO,e2,Option.bind_some,un]
     ·by_cases g2:b-k≥2
      ·simp only[g1,g2,dc,fO] at e4⊢
       rw[e4]
       rfl
      ·exact absurd (show b-k≥2 by omega) g2
    rw[bU e5]
    exact ih k _ (by omega) (by omega) (by omega) (by omega) (by omega)
theorem Rg {a b:Nat} {d:Array XE} (eQ:a<b) (hb:b≤d.size) (hs:d.size<1152921504606846976):
  CC DE [.int .i64 (a:Int),.int .i64 (b:Int),.list aa (eA d)]=
   some [.bool (partialInsertionSort ay d a b).2,.list aa (eA (partialInsertionSort ay d a b).1)]:=by
 refine acI ?_
 unfold Q8
 simp (disch:=omega) only[dy,wrap64]
 rcases acU (a:=a) (b:=b) 5 (a+1) d (b7 _) (by omega) (by omega) hb hs with h|⟨x,y,z,h0,h⟩
 ·rw[show ((5-5:Nat):Int)=0 from rfl] at h
  rw[h]
  rfl
 ·rw[show ((5-5:Nat):Int)=0 from rfl] at h
  rw[h]
  unfold partialInsertionSort
  rw[h0]
  rfl
end Go.AM.SX
set_option maxRecDepth 100000
namespace Go.AM
open Go.Proofs
noncomputable abbrev rQ:Code:=cK Try.prog (az.aZ 114)
noncomputable def An (C:ag) (data:List V) (i j k':Int) (t36:Bool) (gJ:Int) {β:Type} (kr:(Int × Int × Int × Int)→Option β):Option β:=
 bif t36 then
  (C vX [.list aa data,.int .i64 i,.int .i64 gJ]).bind fun r1=>
  (C vX [.list aa data,.int .i64 j,.int .i64 ((V.nth (r1.drop 1) 0).toInt)]).bind fun r2=>
  (C vX [.list aa data,.int .i64 k',.int .i64 ((V.nth (r2.drop 1) 0).toInt)]).bind fun r3=>
  kr ((V.nth r1 0).toInt,(V.nth r2 0).toInt,(V.nth r3 0).toInt,(V.nth (r3.drop 1) 0).toInt)
 else
  kr (i,j,k',gJ)
noncomputable def Ao (C:ag) (data:List V) (l i j k':Int) (t34:Bool) (gJ:Int) {β:Type} (kr:(Int × Int)→Option β):Option β:=
 bif t34 then
  An C data i j k' (decide ((l:Int)≥50)) gJ (un fun (eW:Int)=>un fun (j_5:Int)=>un fun (k_6:Int) (acV:Int)=>
   (C zj [.list aa data,.int .i64 eW,.int .i64 j_5,.int .i64 k_6,.int .i64 acV]).bind fun r8=>
   kr ((V.nth r8 0).toInt,(V.nth (r8.drop 1) 0).toInt))
 else
  kr (j,gJ)
noncomputable def Rh (C:ag):cz:=fun β n ds k=>
 bif Nat.beq n 591 then iB Ix [[1,0,0,0,0]] (@An C) ds k else
 bif Nat.beq n 559 then iB Iy [[0,0]] (@Ao C) ds k else
 none
abbrev Ri (C:ag) (b:cw):Prop:=cx Try.prog az C (Rh C) 114 (cN Try.prog (az.aZ 114)) (az.sin 114).a9.length b
theorem acW (C:ag):Ri C (.cond 36 (ax [1,1,1,1,1,1,0,1,0,0,1,0] rQ) (ax [1,1,1,1,1,1,0,1,0,0,1,1] rQ)):=
 iT Ix [[1,0,0,0,0]] (@An C) (by kernel_rfl) (bh (bs:=[]) (by kernel_rfl) aw) (bh (bs:=[]) (by kernel_rfl) aw) (fun ds=>by kernel_rfl) (fun i β k=>by kernel_rfl) (fun β ds k=>by kernel_rfl)
theorem acX (C:ag):Ri C (.cond 34 (ax [1,1,1,1,1,1,0,1,0] rQ) (ax [1,1,1,1,1,1,0,1,1] rQ)):=
 iT Iy [[0,0]] (@Ao C) (by kernel_rfl) (bh (bs:=[.cond 36 (ax [1,1,1,1,1,1,0,1,0,0,1,0] rQ) (ax [1,1,1,1,1,1,0,1,0,0,1,1] rQ)]) (by kernel_rfl) (bH (acW C) aw)) (bh (bs:=[]) (by kernel_rfl) aw) (fun ds=>by kernel_rfl) (fun i β k=>by kernel_rfl) (fun β ds k=>by kernel_rfl)
noncomputable def JH (C:ag) (data:List V) (a b':Int):Option (List V):=
 Ao C data (IntKind.wrap .i64 (b'-a)) (IntKind.wrap .i64 (a+(IntKind.wrap .i64 (1*(IntKind.wrap .i64 (Int.tdiv (IntKind.wrap .i64 (b'-a)) 4)))))) (IntKind.wrap .i64 (a+(IntKind.wrap .i64 (2*(IntKind.wrap .i64 (Int.tdiv (IntKind.wrap .i64 (b'-a)) 4)))))) (IntKind.wrap .i64 (a+(IntKind.wrap .i64 (3*(IntKind.wrap .i64 (Int.tdiv (IntKind.wrap .i64 (b'-a)) 4)))))) (decide (((IntKind.wrap .i64 (b'-a)):Int)≥8)) 0 (un fun (JI:Int) (Rj:Int)=>
  bif (Rj:Int)==0 then
   some [.int .i64 JI,.int .i64 1]
  else
   bif (Rj:Int)==12 then
   some [.int .i64 JI,.int .i64 2]
   else
   some [.int .i64 JI,.int .i64 0])
theorem Rk {data:List V} {a b':Int} {r:Option (List V)} (h:JH CC data a b'=r):CC zh [.list aa data,.int .i64 a,.int .i64 b']=r:=
 ba (key:=114) (L:=Rh CC) (bs:=[.cond 34 (ax [1,1,1,1,1,1,0,1,0] rQ) (ax [1,1,1,1,1,1,0,1,1] rQ)]) (by kernel_rfl) (bH (acX CC) aw) (aX (by kernel_rfl) h)
noncomputable def Rl (C:ag) (data:List V) (a b' c gJ:Int):Option (List V):=
 (C vY [.list aa data,.int .i64 a,.int .i64 b',.int .i64 gJ]).bind fun r1=>
 (C vY [.list aa data,.int .i64 ((V.nth (r1.drop 1) 0).toInt),.int .i64 c,.int .i64 ((V.nth (r1.drop 2) 0).toInt)]).bind fun r2=>
 (C vY [.list aa data,.int .i64 ((V.nth r1 0).toInt),.int .i64 ((V.nth r2 0).toInt),.int .i64 ((V.nth (r2.drop 2) 0).toInt)]).bind fun r3=>
 some [.int .i64 ((V.nth (r3.drop 1) 0).toInt),.int .i64 ((V.nth (r3.drop 2) 0).toInt)]
theorem acY {data:List V} {a b' c gJ:Int} {r:Option (List V)} (h:Rl CC data a b' c gJ=r):CC zj [.list aa data,.int .i64 a,.int .i64 b',.int .i64 c,.int .i64 gJ]=r:=
 ba (key:=125) (L:=cb) (bs:=[]) (by kernel_rfl) aw (aX (by kernel_rfl) h)
noncomputable def JJ (C:ag) (data:List V) (a b' gJ:Int):Option (List V):=
 (idx data b').bind fun x1=>
 (idx data a).bind fun x2=>
 (C a8 [.int .i64 ((x1.cell 0).toInt),.int .i64 ((x1.cell 1).toInt),.list aa ((x1.cell 2).toList),.int .i64 ((x2.cell 0).toInt),.int .i64 ((x2.cell 1).toInt),.list aa ((x2.cell 2).toList)]).bind fun r3=>
 bif decide ((((V.nth r3 0).toInt):Int)<0) then
  some [.int .i64 b',.int .i64 a,.int .i64 (IntKind.wrap .i64 (gJ+1))]
 else
  some [.int .i64 a,.int .i64 b',.int .i64 gJ]
theorem Rm {data:List V} {a b' gJ:Int} {r:Option (List V)} (h:JJ CC data a b' gJ=r):CC vY [.list aa data,.int .i64 a,.int .i64 b',.int .i64 gJ]=r:=
 ba (key:=126) (L:=cb) (bs:=[]) (by kernel_rfl) aw (aX (by kernel_rfl) h)
noncomputable def Rn (C:ag) (data:List V) (a gJ:Int):Option (List V):=
 (C zj [.list aa data,.int .i64 (IntKind.wrap .i64 (a-1)),.int .i64 a,.int .i64 (IntKind.wrap .i64 (a+1)),.int .i64 gJ]).bind fun r1=>
 some [.int .i64 ((V.nth r1 0).toInt),.int .i64 ((V.nth (r1.drop 1) 0).toInt)]
theorem acZ {data:List V} {a gJ:Int} {r:Option (List V)} (h:Rn CC data a gJ=r):CC vX [.list aa data,.int .i64 a,.int .i64 gJ]=r:=
 ba (key:=124) (L:=cb) (bs:=[]) (by kernel_rfl) aw (aX (by kernel_rfl) h)
noncomputable abbrev wV:Code:=cK Try.prog (az.aZ 113)
noncomputable def Ew (C:ag) (a length wW jv other:Int) (t45:Bool) (ak:List V) (Ap:Int) {β:Type} (kr:(Int)→Option β):Option β:=
 bif t45 then
  kr (IntKind.wrap .i64 (other-length))
 else
  kr other
noncomputable def Aq (C:ag) (a length wW jv:Int) (ak:List V) (Ap:Int) {β:Type} (kn:(Int × (List V) × Int)→Option β) (kr:(Int × Bool × (List V) × Int)→Option β):Option β:=
 bif decide ((jv:Int)≤(IntKind.wrap .i64 ((IntKind.wrap .i64 (a+(IntKind.wrap .i64 (2*(IntKind.wrap .i64 (Int.tdiv length 4))))))+1))) then
  (C DH [.int .u64 Ap]).bind fun r2=>
  Ew C a length wW jv (IntKind.wrap .i64 (IntKind.wrap .u64 ((BitVec.ofInt (IntKind.bits .u64) ((V.nth r2 0).toInt)&&&BitVec.ofInt (IntKind.bits .u64) (IntKind.wrap .u64 (wW-1))).toNat))) (decide (((IntKind.wrap .i64 (IntKind.wrap .u64 ((BitVec.ofInt (IntKind.bits .u64) ((V.nth r2 0).toInt)&&&BitVec.ofInt (IntKind.bits .u64) (IntKind.wrap .u64 (wW-1))).toNat))):Int)≥length)) ak ((V.nth (r2.drop 1) 0).toInt) (fun (tZ:Int)=>
   bif (decide (0≤(IntKind.wrap .i64 (a+tZ))))&&(decide ((IntKind.wrap .i64 (a+tZ))<(ak.length:Int))) then
   (ak[(IntKind.wrap .i64 (a+tZ):Int).toNat]?).bind fun x4=>
   bif (decide (0≤jv))&&(decide (jv<(ak.length:Int))) then
    (ak[(jv:Int).toNat]?).bind fun x5=>
    bif (decide (0≤jv))&&(decide (jv<(ak.length:Int))) then
    (ak[(jv:Int).toNat]?).bind fun x6=>
    bif (decide (0≤(IntKind.wrap .i64 (a+tZ))))&&(decide ((IntKind.wrap .i64 (a+tZ))<((ak.set ((jv:Int).toNat) (.agg [.int .i64 ((x4.cell 0).toInt),.int .i64 ((x4.cell 1).toInt),.list aa ((x4.cell 2).toList)])).length:Int))) then
     ((ak.set ((jv:Int).toNat) (.agg [.int .i64 ((x4.cell 0).toInt),.int .i64 ((x4.cell 1).toInt),.list aa ((x4.cell 2).toList)]))[(IntKind.wrap .i64 (a+tZ):Int).toNat]?).bind fun x7=>
     kn (IntKind.wrap .i64 (jv+1),(ak.set ((jv:Int).toNat) (.agg [.int .i64 ((x4.cell 0).toInt),.int .i64 ((x4.cell 1).toInt),.list aa ((x4.cell 2).toList)])).set ((IntKind.wrap .i64 (a+tZ):Int).toNat) (.agg [.int .i64 ((x5.cell 0).toInt),.int .i64 ((x5.cell 1).toInt),.list aa ((x5.cell 2).toList)]),(V.nth (r2.drop 1) 0).toInt)
    else none
    else none
   else none
   else none)
 else
  kr (jv,decide ((jv:Int)≤(IntKind.wrap .i64 ((IntKind.wrap .i64 (a+(IntKind.wrap .i64 (2*(IntKind.wrap .i64 (Int.tdiv length 4))))))+1))),ak,Ap)
noncomputable def Ey (C:ag) (a length wW:Int):(Int × (List V) × Int)→Option ((Int × (List V) × Int) ⊕ (Int × Bool × (List V) × Int)):=un fun jv=>un fun ak Ap=>Aq C a length wW jv ak Ap (fun y=>some (.inl y)) (fun r=>some (.inr r))
noncomputable def Ro (C:ag):cz:=fun β n ds k=>
 bif Nat.beq n 735 then iB Iv [[1,2,3,4,0,7,8]] (@Ew C) ds k else
 bif Nat.beq n 81 then cl Iw [false,false,false,true,true,true] [[1,2,3,0,0,0,0]] (@Aq C) ds k else
 none
abbrev Rp (C:ag) (b:cw):Prop:=cx Try.prog az C (Ro C) 113 (cN Try.prog (az.aZ 113)) (az.sin 113).a9.length b
theorem ac0 (C:ag):Rp C (.cond 45 (ax [1,1,0,1,1,1,0,0,1,0,0,1,0,1,0] wV) (ax [1,1,0,1,1,1,0,0,1,0,0,1,0,1,1] wV)):=
 iT Iv [[1,2,3,4,0,7,8]] (@Ew C) (by kernel_rfl) (bh (bs:=[]) (by kernel_rfl) aw) (bh (bs:=[]) (by kernel_rfl) aw) (fun ds=>by kernel_rfl) (fun i β k=>by kernel_rfl) (fun β ds k=>by kernel_rfl)
theorem ac1 (C:ag):Rp C (.loop (ax [1,1,0,1,1,1,0,0] wV)):=
 cy Iw [false,false,false,true,true,true] [[1,2,3,0,0,0,0]] (@Aq C) (by kernel_rfl) (bh (bs:=[.cond 45 (ax [1,1,0,1,1,1,0,0,1,0,0,1,0,1,0] wV) (ax [1,1,0,1,1,1,0,0,1,0,0,1,0,1,1] wV)]) (by kernel_rfl) (bH (ac0 C) aw)) (fun ds=>by kernel_rfl) (fun i x=>by kernel_rfl) (fun i x β k=>by kernel_rfl) (fun β ds k=>by kernel_rfl)
noncomputable def Rq (C:ag) (a b':Int) (ak:List V):Option (List V):=
 bif decide (((IntKind.wrap .i64 (b'-a)):Int)≥8) then
  (C DG [.int .i64 (IntKind.wrap .i64 (b'-a))]).bind fun r1=>
  (Loop (Ey C a (IntKind.wrap .i64 (b'-a)) ((V.nth r1 0).toInt)) (IntKind.wrap .i64 ((IntKind.wrap .i64 (a+(IntKind.wrap .i64 (2*(IntKind.wrap .i64 (Int.tdiv (IntKind.wrap .i64 (b'-a)) 4))))))-1),ak,IntKind.wrap .u64 (IntKind.wrap .i64 (b'-a)))).bind (un fun (ahG:Int)=>un fun (rF:Bool)=>un fun (oe:List V) (ahH:Int)=>
   some [.list aa oe])
 else
  some [.list aa ak]
theorem ac2 {a b':Int} {ak:List V} {r:Option (List V)} (h:Rq CC a b' ak=r):CC DC [.int .i64 a,.int .i64 b',.list aa ak]=r:=
 ba (key:=113) (L:=Ro CC) (bs:=[.loop (ax [1,1,0,1,1,1,0,0] wV)]) (by kernel_rfl) (bH (ac1 CC) aw) (aX (by kernel_rfl) h)
noncomputable def Rr (C:ag) (iE:Int):Option (List V):=
 some [.int .u64 (IntKind.wrap .u64 ((BitVec.ofInt (IntKind.bits .u64) (IntKind.wrap .u64 ((BitVec.ofInt (IntKind.bits .u64) (IntKind.wrap .u64 ((BitVec.ofInt (IntKind.bits .u64) iE ^^^ BitVec.ofInt (IntKind.bits .u64) (IntKind.wrap .u64 (iE*2^(min (13:Int).toNat (IntKind.bits .u64))))).toNat)) ^^^ BitVec.ofInt (IntKind.bits .u64) (Int.fdiv (IntKind.wrap .u64 ((BitVec.ofInt (IntKind.bits .u64) iE ^^^ BitVec.ofInt (IntKind.bits .u64) (IntKind.wrap .u64 (iE*2^(min (13:Int).toNat (IntKind.bits .u64))))).toNat)) (2^(min (7:Int).toNat (IntKind.bits .u64))))).toNat)) ^^^ BitVec.ofInt (IntKind.bits .u64) (IntKind.wrap .u64 ((IntKind.wrap .u64 ((BitVec.ofInt (IntKind.bits .u64) (IntKind.wrap .u64 ((BitVec.ofInt (IntKind.bits .u64) iE ^^^ BitVec.ofInt (IntKind.bits .u64) (IntKind.wrap .u64 (iE*2^(min (13:Int).toNat (IntKind.bits .u64))))).toNat)) ^^^ BitVec.ofInt (IntKind.bits .u64) (Int.fdiv (IntKind.wrap .u64 ((BitVec.ofInt (IntKind.bits .u64) iE ^^^ BitVec.ofInt (IntKind.bits .u64) (IntKind.wrap .u64 (iE*2^(min (13:Int).toNat (IntKind.bits .u64))))).toNat)) (2^(min (7:Int).toNat (IntKind.bits .u64))))).toNat))*2^(min (17:Int).toNat (IntKind.bits .u64))))).toNat)),.int .u64 (IntKind.wrap .u64 ((BitVec.ofInt (IntKind.bits .u64) (IntKind.wrap .u64 ((BitVec.ofInt (IntKind.bits .u64) (IntKind.wrap .u64 ((BitVec.ofInt (IntKind.bits .u64) iE ^^^ BitVec.ofInt (IntKind.bits .u64) (IntKind.wrap .u64 (iE*2^(min (13:Int).toNat (IntKind.bits .u64))))).toNat)) ^^^ BitVec.ofInt (IntKind.bits .u64) (Int.fdiv (IntKind.wrap .u64 ((BitVec.ofInt (IntKind.bits .u64) iE ^^^ BitVec.ofInt (IntKind.bits .u64) (IntKind.wrap .u64 (iE*2^(min (13:Int).toNat (IntKind.bits .u64))))).toNat)) (2^(min (7:Int).toNat (IntKind.bits .u64))))).toNat)) ^^^ BitVec.ofInt (IntKind.bits .u64) (IntKind.wrap .u64 ((IntKind.wrap .u64 ((BitVec.ofInt (IntKind.bits .u64) (IntKind.wrap .u64 ((BitVec.ofInt (IntKind.bits .u64) iE ^^^ BitVec.ofInt (IntKind.bits .u64) (IntKind.wrap .u64 (iE*2^(min (13:Int).toNat (IntKind.bits .u64))))).toNat)) ^^^ BitVec.ofInt (IntKind.bits .u64) (Int.fdiv (IntKind.wrap .u64 ((BitVec.ofInt (IntKind.bits .u64) iE ^^^ BitVec.ofInt (IntKind.bits .u64) (IntKind.wrap .u64 (iE*2^(min (13:Int).toNat (IntKind.bits .u64))))).toNat)) (2^(min (7:Int).toNat (IntKind.bits .u64))))).toNat))*2^(min (17:Int).toNat (IntKind.bits .u64))))).toNat))]
theorem ac3 {iE:Int} {r:Option (List V)} (h:Rr CC iE=r):CC DH [.int .u64 iE]=r:=
 ba (key:=123) (L:=cb) (bs:=[]) (by kernel_rfl) aw (aX (by kernel_rfl) h)
noncomputable def Rs (C:ag) (length:Int):Option (List V):=
 (C ze [.int .u64 (IntKind.wrap .u64 length)]).bind fun r1=>
 bif decide (0≤((V.nth r1 0).toInt)) then
  some [.int .u64 (IntKind.wrap .u64 (1*2^(min ((V.nth r1 0).toInt).toNat (IntKind.bits .u64))))]
 else none
theorem ac4 {length:Int} {r:Option (List V)} (h:Rs CC length=r):CC DG [.int .i64 length]=r:=
 ba (key:=122) (L:=cb) (bs:=[]) (by kernel_rfl) aw (aX (by kernel_rfl) h)
noncomputable def Rt (C:ag) (x:Int):Option (List V):=
 (C DF [.int .u64 x]).bind fun r1=>
 some [.int .i64 ((V.nth r1 0).toInt)]
theorem ac5 {x:Int} {r:Option (List V)} (h:Rt CC x=r):CC ze [.int .u64 x]=r:=
 ba (key:=110) (L:=cb) (bs:=[]) (by kernel_rfl) aw (aX (by kernel_rfl) h)
noncomputable abbrev rR:Code:=cK Try.prog (az.aZ 120)
noncomputable def ua (C:ag) (x n:Int) (t4:Bool) {β:Type} (kr:(Int × Int)→Option β):Option β:=
 bif t4 then
  kr (Int.fdiv x (2^(min (32:Int).toNat (IntKind.bits .u64))),32)
 else
  kr (x,n)
noncomputable def ub (C:ag) (x n:Int) (t8:Bool) {β:Type} (kr:(Int × Int)→Option β):Option β:=
 bif t8 then
  kr (Int.fdiv x (2^(min (16:Int).toNat (IntKind.bits .u64))),IntKind.wrap .i64 (n+16))
 else
  kr (x,n)
noncomputable def Ru (C:ag):cz:=fun β n ds k=>
 bif Nat.beq n 79 then iB IN [[0,0]] (@ua C) ds k else
 bif Nat.beq n 143 then iB IP [[0,0]] (@ub C) ds k else
 none
abbrev Rv (C:ag) (b:cw):Prop:=cx Try.prog az C (Ru C) 120 (cN Try.prog (az.aZ 120)) (az.sin 120).a9.length b
theorem ac6 (C:ag):Rv C (.cond 4 (ax [1,0,1,0] rR) (ax [1,0,1,1] rR)):=
 iT IN [[0,0]] (@ua C) (by kernel_rfl) (bh (bs:=[]) (by kernel_rfl) aw) (bh (bs:=[]) (by kernel_rfl) aw) (fun ds=>by kernel_rfl) (fun i β k=>by kernel_rfl) (fun β ds k=>by kernel_rfl)
theorem ac7 (C:ag):Rv C (.cond 8 (ax [1,1,0,1,0] rR) (ax [1,1,0,1,1] rR)):=
 iT IP [[0,0]] (@ub C) (by kernel_rfl) (bh (bs:=[]) (by kernel_rfl) aw) (bh (bs:=[]) (by kernel_rfl) aw) (fun ds=>by kernel_rfl) (fun i β k=>by kernel_rfl) (fun β ds k=>by kernel_rfl)
noncomputable def ac8 (C:ag) (x:Int):Option (List V):=
 ua C x 0 (decide ((x:Int)≥4294967296)) (un fun (rS:Int) (Ar:Int)=>
  ub C rS Ar (decide ((rS:Int)≥65536)) (un fun (As:Int) (Rw:Int)=>
   bif decide ((As:Int)≥256) then
    (bif decide (0≤(IntKind.wrap .u8 (Int.fdiv As (2^(min (8:Int).toNat (IntKind.bits .u64)))))) then (([0,1,2,2,3,3,3,3,4,4,4,4,4,4,4,4,5,5,5,5,5,5,5,5,5,5,5,5,5,5,5,5,6,6,6,6,6,6,6,6,6,6,6,6,6,6,6,6,6,6,6,6,6,6,6,6,6,6,6,6,6,6,6,6,7,7,7,7,7,7,7,7,7,7,7,7,7,7,7,7,7,7,7,7,7,7,7,7,7,7,7,7,7,7,7,7,7,7,7,7,7,7,7,7,7,7,7,7,7,7,7,7,7,7,7,7,7,7,7,7,7,7,7,7,7,7,7,7,8,8,8,8,8,8,8,8,8,8,8,8,8,8,8,8,8,8,8,8,8,8,8,8,8,8,8,8,8,8,8,8,8,8,8,8,8,8,8,8,8,8,8,8,8,8,8,8,8,8,8,8,8,8,8,8,8,8,8,8,8,8,8,8,8,8,8,8,8,8,8,8,8,8,8,8,8,8,8,8,8,8,8,8,8,8,8,8,8,8,8,8,8,8,8,8,8,8,8,8,8,8,8,8,8,8,8,8,8,8,8,8,8,8,8,8,8,8,8,8,8,8,8,8,8,8,8,8]:List UInt8)[(IntKind.wrap .u8 (Int.fdiv As (2^(min (8:Int).toNat (IntKind.bits .u64)))):Int).toNat]?).map fun b=>V.int .u8 b.toNat else none).bind fun x5=>
    some [.int .i64 (IntKind.wrap .i64 ((IntKind.wrap .i64 (Rw+8))+(IntKind.wrap .i64 x5.toInt)))]
   else
    (bif decide (0≤(IntKind.wrap .u8 As)) then (([0,1,2,2,3,3,3,3,4,4,4,4,4,4,4,4,5,5,5,5,5,5,5,5,5,5,5,5,5,5,5,5,6,6,6,6,6,6,6,6,6,6,6,6,6,6,6,6,6,6,6,6,6,6,6,6,6,6,6,6,6,6,6,6,7,7,7,7,7,7,7,7,7,7,7,7,7,7,7,7,7,7,7,7,7,7,7,7,7,7,7,7,7,7,7,7,7,7,7,7,7,7,7,7,7,7,7,7,7,7,7,7,7,7,7,7,7,7,7,7,7,7,7,7,7,7,7,7,8,8,8,8,8,8,8,8,8,8,8,8,8,8,8,8,8,8,8,8,8,8,8,8,8,8,8,8,8,8,8,8,8,8,8,8,8,8,8,8,8,8,8,8,8,8,8,8,8,8,8,8,8,8,8,8,8,8,8,8,8,8,8,8,8,8,8,8,8,8,8,8,8,8,8,8,8,8,8,8,8,8,8,8,8,8,8,8,8,8,8,8,8,8,8,8,8,8,8,8,8,8,8,8,8,8,8,8,8,8,8,8,8,8,8,8,8,8,8,8,8,8,8,8,8,8,8,8]:List UInt8)[(IntKind.wrap .u8 As:Int).toNat]?).map fun b=>V.int .u8 b.toNat else none).bind fun x6=>
    some [.int .i64 (IntKind.wrap .i64 (Rw+(IntKind.wrap .i64 x6.toInt)))]))
theorem Rx {x:Int} {r:Option (List V)} (h:ac8 CC x=r):CC DF [.int .u64 x]=r:=
 ba (key:=120) (L:=Ru CC) (bs:=[.cond 4 (ax [1,0,1,0] rR) (ax [1,0,1,1] rR),.cond 8 (ax [1,1,0,1,0] rR) (ax [1,1,0,1,1] rR)]) (by kernel_rfl) (bH (ac6 CC) (bH (ac7 CC) aw)) (aX (by kernel_rfl) h)
noncomputable abbrev lq:Code:=cK Try.prog (az.aZ 109)
noncomputable def wX (C:ag) (a b' iZ:Int) (et eL:Bool) (length:Int) (t39:Bool) (ak:List V) {β:Type} (kr:(Int × (List V))→Option β):Option β:=
 bif t39 then
  (C DC [.int .i64 a,.int .i64 b',.list aa ak]).bind fun r3=>
  kr (IntKind.wrap .i64 (iZ-1),(V.nth r3 0).toList)
 else
  kr (iZ,ak)
noncomputable def wY (C:ag) (a b' iZ:Int) (et eL:Bool) (length pivot hint:Int) (t56:Bool) (ak:List V) {β:Type} (kr:(Int × Int × (List V))→Option β):Option β:=
 bif t56 then
  (C DD [.int .i64 a,.int .i64 b',.list aa ak]).bind fun r7=>
  kr (IntKind.wrap .i64 ((IntKind.wrap .i64 (b'-1))-(IntKind.wrap .i64 (pivot-a))),1,(V.nth r7 0).toList)
 else
  kr (pivot,hint,ak)
noncomputable def mg (C:ag) (a b' iZ:Int) (et eL:Bool) (length pivot:Int) (t75:Bool) (ak:List V) {β:Type} (kr:((Bool × (List V)) ⊕ (List V))→Option β):Option β:=
 bif t75 then
  (C DE [.int .i64 a,.int .i64 b',.list aa ak]).bind fun eM=>
  bif (V.nth eM 0).toBool then
  kr (.inl ((V.nth eM 0).toBool,(V.nth (eM.drop 1) 0).toList))
  else
  kr (.inr ((V.nth (eM.drop 1) 0).toList))
 else
  kr (.inr ak)
noncomputable def pe (C:ag) (a b' iZ:Int) (et eL:Bool) (ak:List V) {β:Type} (kn:(Int × Int × Int × Bool × Bool × (List V))→Option β) (kr:(List V)→Option β):Option β:=
 bif decide (((IntKind.wrap .i64 (b'-a)):Int)≤12) then
  (C zf [.int .i64 a,.int .i64 b',.list aa ak]).bind fun r1=>
  kr ((V.nth r1 0).toList)
 else
  bif (iZ:Int)==0 then
  (C zg [.int .i64 a,.int .i64 b',.list aa ak]).bind fun r2=>
  kr ((V.nth r2 0).toList)
  else
  wX C a b' iZ et eL (IntKind.wrap .i64 (b'-a)) (!et) ak (un fun (cu:Int) (Au:List V)=>
   (C zh [.list aa Au,.int .i64 a,.int .i64 b']).bind fun r6=>
   wY C a b' cu et eL (IntKind.wrap .i64 (b'-a)) ((V.nth r6 0).toInt) ((V.nth (r6.drop 1) 0).toInt) ((((V.nth (r6.drop 1) 0).toInt):Int)==2) Au (un fun (dz:Int)=>un fun (JK:Int) (oe:List V)=>
    bif et then
     bif eL then
     mg C a b' cu et eL (IntKind.wrap .i64 (b'-a)) dz ((JK:Int)==1) oe (b6 (un fun (IZ:Bool) (Jy:List V)=>
      kr Jy) (fun (uc:List V)=>
      bif decide ((a:Int)>0) then
       bif (decide (0≤(IntKind.wrap .i64 (a-1))))&&(decide ((IntKind.wrap .i64 (a-1))<(uc.length:Int))) then
       (uc[(IntKind.wrap .i64 (a-1):Int).toNat]?).bind fun fB=>
       bif (decide (0≤dz))&&(decide (dz<(uc.length:Int))) then
        (uc[(dz:Int).toNat]?).bind fun gg=>
        (C a8 [.int .i64 ((fB.cell 0).toInt),.int .i64 ((fB.cell 1).toInt),.list aa ((fB.cell 2).toList),.int .i64 ((gg.cell 0).toInt),.int .i64 ((gg.cell 1).toInt),.list aa ((gg.cell 2).toList)]).bind fun dC=>
        bif !(decide ((((V.nth dC 0).toInt):Int)<0)) then
        (C tz [.int .i64 a,.int .i64 b',.int .i64 dz,.list aa uc]).bind fun iF=>
        kn ((V.nth iF 0).toInt,b',cu,et,eL,(V.nth (iF.drop 1) 0).toList)
        else
        (C mS [.int .i64 a,.int .i64 b',.int .i64 dz,.list aa uc]).bind fun ep=>
        bif decide (((IntKind.wrap .i64 (((V.nth ep 0).toInt)-a)):Int)<(IntKind.wrap .i64 (b'-((V.nth ep 0).toInt)))) then
         (C fW [.int .i64 a,.int .i64 ((V.nth ep 0).toInt),.int .i64 cu,.list aa ((V.nth (ep.drop 2) 0).toList)]).bind fun ja=>
         kn (IntKind.wrap .i64 (((V.nth ep 0).toInt)+1),b',cu,decide (((IntKind.wrap .i64 (((V.nth ep 0).toInt)-a)):Int)≥(IntKind.wrap .i64 (Int.tdiv (IntKind.wrap .i64 (b'-a)) 8))),(V.nth (ep.drop 1) 0).toBool,(V.nth ja 0).toList)
        else
         (C fW [.int .i64 (IntKind.wrap .i64 (((V.nth ep 0).toInt)+1)),.int .i64 b',.int .i64 cu,.list aa ((V.nth (ep.drop 2) 0).toList)]).bind fun oj=>
         kn (a,(V.nth ep 0).toInt,cu,decide (((IntKind.wrap .i64 (b'-((V.nth ep 0).toInt))):Int)≥(IntKind.wrap .i64 (Int.tdiv (IntKind.wrap .i64 (b'-a)) 8))),(V.nth (ep.drop 1) 0).toBool,(V.nth oj 0).toList)
       else none
       else none
      else
       (C mS [.int .i64 a,.int .i64 b',.int .i64 dz,.list aa uc]).bind fun jT=>
       bif decide (((IntKind.wrap .i64 (((V.nth jT 0).toInt)-a)):Int)<(IntKind.wrap .i64 (b'-((V.nth jT 0).toInt)))) then
       (C fW [.int .i64 a,.int .i64 ((V.nth jT 0).toInt),.int .i64 cu,.list aa ((V.nth (jT.drop 2) 0).toList)]).bind fun r23=>
       kn (IntKind.wrap .i64 (((V.nth jT 0).toInt)+1),b',cu,decide (((IntKind.wrap .i64 (((V.nth jT 0).toInt)-a)):Int)≥(IntKind.wrap .i64 (Int.tdiv (IntKind.wrap .i64 (b'-a)) 8))),(V.nth (jT.drop 1) 0).toBool,(V.nth r23 0).toList)
       else
       (C fW [.int .i64 (IntKind.wrap .i64 (((V.nth jT 0).toInt)+1)),.int .i64 b',.int .i64 cu,.list aa ((V.nth (jT.drop 2) 0).toList)]).bind fun Jc=>
       kn (a,(V.nth jT 0).toInt,cu,decide (((IntKind.wrap .i64 (b'-((V.nth jT 0).toInt))):Int)≥(IntKind.wrap .i64 (Int.tdiv (IntKind.wrap .i64 (b'-a)) 8))),(V.nth (jT.drop 1) 0).toBool,(V.nth Jc 0).toList)))
     else
     mg C a b' cu et eL (IntKind.wrap .i64 (b'-a)) dz false oe (b6 (un fun (YF:Bool) (ac9:List V)=>
      kr ac9) (fun (qt:List V)=>
      bif decide ((a:Int)>0) then
       bif (decide (0≤(IntKind.wrap .i64 (a-1))))&&(decide ((IntKind.wrap .i64 (a-1))<(qt.length:Int))) then
       (qt[(IntKind.wrap .i64 (a-1):Int).toNat]?).bind fun tV=>
       bif (decide (0≤dz))&&(decide (dz<(qt.length:Int))) then
        (qt[(dz:Int).toNat]?).bind fun tW=>
        (C a8 [.int .i64 ((tV.cell 0).toInt),.int .i64 ((tV.cell 1).toInt),.list aa ((tV.cell 2).toList),.int .i64 ((tW.cell 0).toInt),.int .i64 ((tW.cell 1).toInt),.list aa ((tW.cell 2).toList)]).bind fun En=>
        bif !(decide ((((V.nth En 0).toInt):Int)<0)) then
        (C tz [.int .i64 a,.int .i64 b',.int .i64 dz,.list aa qt]).bind fun Ry=>
        kn ((V.nth Ry 0).toInt,b',cu,et,eL,(V.nth (Ry.drop 1) 0).toList)
        else
        (C mS [.int .i64 a,.int .i64 b',.int .i64 dz,.list aa qt]).bind fun na=>
        bif decide (((IntKind.wrap .i64 (((V.nth na 0).toInt)-a)):Int)<(IntKind.wrap .i64 (b'-((V.nth na 0).toInt)))) then
         (C fW [.int .i64 a,.int .i64 ((V.nth na 0).toInt),.int .i64 cu,.list aa ((V.nth (na.drop 2) 0).toList)]).bind fun r33=>
         kn (IntKind.wrap .i64 (((V.nth na 0).toInt)+1),b',cu,decide (((IntKind.wrap .i64 (((V.nth na 0).toInt)-a)):Int)≥(IntKind.wrap .i64 (Int.tdiv (IntKind.wrap .i64 (b'-a)) 8))),(V.nth (na.drop 1) 0).toBool,(V.nth r33 0).toList)
        else
         (C fW [.int .i64 (IntKind.wrap .i64 (((V.nth na 0).toInt)+1)),.int .i64 b',.int .i64 cu,.list aa ((V.nth (na.drop 2) 0).toList)]).bind fun r34=>
         kn (a,(V.nth na 0).toInt,cu,decide (((IntKind.wrap .i64 (b'-((V.nth na 0).toInt))):Int)≥(IntKind.wrap .i64 (Int.tdiv (IntKind.wrap .i64 (b'-a)) 8))),(V.nth (na.drop 1) 0).toBool,(V.nth r34 0).toList)
       else none
       else none
      else
       (C mS [.int .i64 a,.int .i64 b',.int .i64 dz,.list aa qt]).bind fun nc=>
       bif decide (((IntKind.wrap .i64 (((V.nth nc 0).toInt)-a)):Int)<(IntKind.wrap .i64 (b'-((V.nth nc 0).toInt)))) then
       (C fW [.int .i64 a,.int .i64 ((V.nth nc 0).toInt),.int .i64 cu,.list aa ((V.nth (nc.drop 2) 0).toList)]).bind fun r36=>
       kn (IntKind.wrap .i64 (((V.nth nc 0).toInt)+1),b',cu,decide (((IntKind.wrap .i64 (((V.nth nc 0).toInt)-a)):Int)≥(IntKind.wrap .i64 (Int.tdiv (IntKind.wrap .i64 (b'-a)) 8))),(V.nth (nc.drop 1) 0).toBool,(V.nth r36 0).toList)
       else
       (C fW [.int .i64 (IntKind.wrap .i64 (((V.nth nc 0).toInt)+1)),.int .i64 b',.int .i64 cu,.list aa ((V.nth (nc.drop 2) 0).toList)]).bind fun r37=>
       kn (a,(V.nth nc 0).toInt,cu,decide (((IntKind.wrap .i64 (b'-((V.nth nc 0).toInt))):Int)≥(IntKind.wrap .i64 (Int.tdiv (IntKind.wrap .i64 (b'-a)) 8))),(V.nth (nc.drop 1) 0).toBool,(V.nth r37 0).toList)))
    else
     mg C a b' cu et eL (IntKind.wrap .i64 (b'-a)) dz false oe (b6 (un fun (Ph:Bool) (ada:List V)=>
      kr ada) (fun (ju:List V)=>
      bif decide ((a:Int)>0) then
      bif (decide (0≤(IntKind.wrap .i64 (a-1))))&&(decide ((IntKind.wrap .i64 (a-1))<(ju.length:Int))) then
       (ju[(IntKind.wrap .i64 (a-1):Int).toNat]?).bind fun mf=>
       bif (decide (0≤dz))&&(decide (dz<(ju.length:Int))) then
       (ju[(dz:Int).toNat]?).bind fun tY=>
       (C a8 [.int .i64 ((mf.cell 0).toInt),.int .i64 ((mf.cell 1).toInt),.list aa ((mf.cell 2).toList),.int .i64 ((tY.cell 0).toInt),.int .i64 ((tY.cell 1).toInt),.list aa ((tY.cell 2).toList)]).bind fun r43=>
       bif !(decide ((((V.nth r43 0).toInt):Int)<0)) then
        (C tz [.int .i64 a,.int .i64 b',.int .i64 dz,.list aa ju]).bind fun Rz=>
        kn ((V.nth Rz 0).toInt,b',cu,et,eL,(V.nth (Rz.drop 1) 0).toList)
       else
        (C mS [.int .i64 a,.int .i64 b',.int .i64 dz,.list aa ju]).bind fun nf=>
        bif decide (((IntKind.wrap .i64 (((V.nth nf 0).toInt)-a)):Int)<(IntKind.wrap .i64 (b'-((V.nth nf 0).toInt)))) then
        (C fW [.int .i64 a,.int .i64 ((V.nth nf 0).toInt),.int .i64 cu,.list aa ((V.nth (nf.drop 2) 0).toList)]).bind fun r46=>
        kn (IntKind.wrap .i64 (((V.nth nf 0).toInt)+1),b',cu,decide (((IntKind.wrap .i64 (((V.nth nf 0).toInt)-a)):Int)≥(IntKind.wrap .i64 (Int.tdiv (IntKind.wrap .i64 (b'-a)) 8))),(V.nth (nf.drop 1) 0).toBool,(V.nth r46 0).toList)
        else
        (C fW [.int .i64 (IntKind.wrap .i64 (((V.nth nf 0).toInt)+1)),.int .i64 b',.int .i64 cu,.list aa ((V.nth (nf.drop 2) 0).toList)]).bind fun r47=>
        kn (a,(V.nth nf 0).toInt,cu,decide (((IntKind.wrap .i64 (b'-((V.nth nf 0).toInt))):Int)≥(IntKind.wrap .i64 (Int.tdiv (IntKind.wrap .i64 (b'-a)) 8))),(V.nth (nf.drop 1) 0).toBool,(V.nth r47 0).toList)
       else none
      else none
      else
      (C mS [.int .i64 a,.int .i64 b',.int .i64 dz,.list aa ju]).bind fun ng=>
      bif decide (((IntKind.wrap .i64 (((V.nth ng 0).toInt)-a)):Int)<(IntKind.wrap .i64 (b'-((V.nth ng 0).toInt)))) then
       (C fW [.int .i64 a,.int .i64 ((V.nth ng 0).toInt),.int .i64 cu,.list aa ((V.nth (ng.drop 2) 0).toList)]).bind fun r49=>
       kn (IntKind.wrap .i64 (((V.nth ng 0).toInt)+1),b',cu,decide (((IntKind.wrap .i64 (((V.nth ng 0).toInt)-a)):Int)≥(IntKind.wrap .i64 (Int.tdiv (IntKind.wrap .i64 (b'-a)) 8))),(V.nth (ng.drop 1) 0).toBool,(V.nth r49 0).toList)
      else
       (C fW [.int .i64 (IntKind.wrap .i64 (((V.nth ng 0).toInt)+1)),.int .i64 b',.int .i64 cu,.list aa ((V.nth (ng.drop 2) 0).toList)]).bind fun r50=>
       kn (a,(V.nth ng 0).toInt,cu,decide (((IntKind.wrap .i64 (b'-((V.nth ng 0).toInt))):Int)≥(IntKind.wrap .i64 (Int.tdiv (IntKind.wrap .i64 (b'-a)) 8))),(V.nth (ng.drop 1) 0).toBool,(V.nth r50 0).toList)))))
noncomputable def RA (C:ag):(Int × Int × Int × Bool × Bool × (List V))→Option ((Int × Int × Int × Bool × Bool × (List V)) ⊕ (List V)):=un fun a=>un fun b'=>un fun iZ=>un fun et=>un fun eL ak=>pe C a b' iZ et eL ak (fun y=>some (.inl y)) (fun r=>some (.inr r))
noncomputable def RB (C:ag):cz:=fun β n ds k=>
 bif Nat.beq n 639 then iB Im [[1,2,0,4,5,6,0]] (@wX C) ds k else
 bif Nat.beq n 911 then iB Io [[1,2,3,4,5,6,0,0,0]] (@wY C) ds k else
 bif Nat.beq n 1215 then iB Ip [[1,2,3,4,5,6,7,0,0],[1,2,3,4,5,6,7,0]] (@mg C) ds k else
 bif Nat.beq n 33 then cl Iq [true,true,true,true,true,true] [[0]] (@pe C) ds k else
 none
abbrev Ez (C:ag) (b:cw):Prop:=cx Try.prog az C (RB C) 109 (cN Try.prog (az.aZ 109)) (az.sin 109).a9.length b
theorem adb (C:ag):Ez C (.cond 39 (ax [1,1,0,0,0,1,1,1,0,1,0] lq) (ax [1,1,0,0,0,1,1,1,0,1,1] lq)):=
 iT Im [[1,2,0,4,5,6,0]] (@wX C) (by kernel_rfl) (bh (bs:=[]) (by kernel_rfl) aw) (bh (bs:=[]) (by kernel_rfl) aw) (fun ds=>by kernel_rfl) (fun i β k=>by kernel_rfl) (fun β ds k=>by kernel_rfl)
theorem ade (C:ag):Ez C (.cond 56 (ax [1,1,0,0,0,1,1,1,1,1,0,1,0] lq) (ax [1,1,0,0,0,1,1,1,1,1,0,1,1] lq)):=
 iT Io [[1,2,3,4,5,6,0,0,0]] (@wY C) (by kernel_rfl) (bh (bs:=[]) (by kernel_rfl) aw) (bh (bs:=[]) (by kernel_rfl) aw) (fun ds=>by kernel_rfl) (fun i β k=>by kernel_rfl) (fun β ds k=>by kernel_rfl)
theorem adf (C:ag):Ez C (.cond 75 (ax [1,1,0,0,0,1,1,1,1,1,1,0,1,0] lq) (ax [1,1,0,0,0,1,1,1,1,1,1,0,1,1] lq)):=
 iT Ip [[1,2,3,4,5,6,7,0,0],[1,2,3,4,5,6,7,0]] (@mg C) (by kernel_rfl) (bh (bs:=[]) (by kernel_rfl) aw) (bh (bs:=[]) (by kernel_rfl) aw) (fun ds=>by kernel_rfl) (fun i β k=>by kernel_rfl) (fun β ds k=>by kernel_rfl)
theorem adg (C:ag):Ez C (.loop (ax [1,1,0,0] lq)):=
 cy Iq [true,true,true,true,true,true] [[0]] (@pe C) (by kernel_rfl) (bh (bs:=[.cond 39 (ax [1,1,0,0,0,1,1,1,0,1,0] lq) (ax [1,1,0,0,0,1,1,1,0,1,1] lq),.cond 56 (ax [1,1,0,0,0,1,1,1,1,1,0,1,0] lq) (ax [1,1,0,0,0,1,1,1,1,1,0,1,1] lq),.cond 75 (ax [1,1,0,0,0,1,1,1,1,1,1,0,1,0] lq) (ax [1,1,0,0,0,1,1,1,1,1,1,0,1,1] lq)]) (by kernel_rfl) (bH (adb C) (bH (ade C) (bH (adf C) aw)))) (fun ds=>by kernel_rfl) (fun i x=>by kernel_rfl) (fun i x β k=>by kernel_rfl) (fun β ds k=>by kernel_rfl)
noncomputable def RC (C:ag) (a b' iZ:Int) (ak:List V):Option (List V):=
 (Loop (RA C) (a,b',iZ,true,true,ak)).bind (fun (adh:List V)=>
  some [.list aa adh])
theorem adi {a b' iZ:Int} {ak:List V} {r:Option (List V)} (h:RC CC a b' iZ ak=r):CC fW [.int .i64 a,.int .i64 b',.int .i64 iZ,.list aa ak]=r:=
 ba (key:=109) (L:=RB CC) (bs:=[.loop (ax [1,1,0,0] lq)]) (by kernel_rfl) (bH (adg CC) aw) (aX (by kernel_rfl) h)
noncomputable def RD (C:ag) (xs:List V):Option (List V):=
 (C ze [.int .u64 (IntKind.wrap .u64 (xs.length:Int))]).bind fun r1=>
 (C fW [.int .i64 0,.int .i64 (xs.length:Int),.int .i64 ((V.nth r1 0).toInt),.list aa xs]).bind fun r2=>
 some [.list aa ((V.nth r2 0).toList)]
theorem adj {xs:List V} {r:Option (List V)} (h:RD CC xs=r):CC zd [.list aa xs]=r:=
 ba (key:=105) (L:=cb) (bs:=[]) (by kernel_rfl) aw (aX (by kernel_rfl) h)
end Go.AM
set_option maxRecDepth 100000
set_option maxHeartbeats 4000000
namespace Go.AM.SX
open Go.Proofs Go.Sort
theorem adk (a b:XE):bN a b<0↔a.lt b:=Iff.rfl
theorem RE (a b:XE):(ay a b=true)=(a.lt b):=by rw[rO];rfl
theorem EA (a b:XE):(ay a b=false)= ¬(a.lt b):=by rw[←RE];simp
theorem wZ:SWO ay where
 irrefl x:=by rw[EA];exact XE.lt_irrefl x
 trans x y z:=by simp only[RE];exact XE.lt_trans
 ntrans x y z:=by simp only[EA];exact XE.abY
def EB:List UInt8:=([0,1,2,2,3,3,3,3,4,4,4,4,4,4,4,4,5,5,5,5,5,5,5,5,5,5,5,5,5,5,5,5,6,6,6,6,6,6,6,6,6,6,6,6,6,6,6,6,6,6,6,6,6,6,6,6,6,6,6,6,6,6,6,6,7,7,7,7,7,7,7,7,7,7,7,7,7,7,7,7,7,7,7,7,7,7,7,7,7,7,7,7,7,7,7,7,7,7,7,7,7,7,7,7,7,7,7,7,7,7,7,7,7,7,7,7,7,7,7,7,7,7,7,7,7,7,7,7,8,8,8,8,8,8,8,8,8,8,8,8,8,8,8,8,8,8,8,8,8,8,8,8,8,8,8,8,8,8,8,8,8,8,8,8,8,8,8,8,8,8,8,8,8,8,8,8,8,8,8,8,8,8,8,8,8,8,8,8,8,8,8,8,8,8,8,8,8,8,8,8,8,8,8,8,8,8,8,8,8,8,8,8,8,8,8,8,8,8,8,8,8,8,8,8,8,8,8,8,8,8,8,8,8,8,8,8,8,8,8,8,8,8,8,8,8,8,8,8,8,8,8,8,8,8,8,8]:List UInt8)
theorem adl:(List.range 256).all (fun y=>match EB[y]? with|some b=>decide (b.toNat≤8)&&(Nat.beq y 0||(decide (1≤b.toNat)&&decide (2^(b.toNat-1)≤y)))|none=>false)=true:=by decide+kernel
theorem RF {y:Nat} (h:y<256): ∃b,EB[y]? =some b∧b.toNat≤8∧(0<y→1≤b.toNat∧2^(b.toNat-1)≤y):=by
 have:=eN.1 adl y (List.mem_range.2 h)
 cases hb:EB[y]? with
 | none=>rw[hb] at this;cases this
 | some b=>
  rw[hb] at this
  simp only[aJ,Bool.or_eq_true,dN] at this
  refine ⟨b,rfl,this.1,fun hy=> ?_⟩
  rcases this.2 with U|U
  ·have:=xm U;omega
  ·exact U
theorem JL {y t k:Nat} (h:2^(t-1)≤y/2^k) (ht:1≤t):2^(t+k-1)≤y:=by
 have e:t+k-1=(t-1)+k:=by omega
 rw[e,Nat.pow_add]
 exact lz (dj _ h) (Nat.div_mul_le_self _ _)
noncomputable def w4 (y n:Int):Option (List V):=
(bif decide ((y:Int)≥256) then
    (bif decide (0≤(IntKind.wrap .u8 (Int.fdiv y (2^(min (8:Int).toNat (IntKind.bits .u64)))))) then (([0,1,2,2,3,3,3,3,4,4,4,4,4,4,4,4,5,5,5,5,5,5,5,5,5,5,5,5,5,5,5,5,6,6,6,6,6,6,6,6,6,6,6,6,6,6,6,6,6,6,6,6,6,6,6,6,6,6,6,6,6,6,6,6,7,7,7,7,7,7,7,7,7,7,7,7,7,7,7,7,7,7,7,7,7,7,7,7,7,7,7,7,7,7,7,7,7,7,7,7,7,7,7,7,7,7,7,7,7,7,7,7,7,7,7,7,7,7,7,7,7,7,7,7,7,7,7,7,8,8,8,8,8,8,8,8,8,8,8,8,8,8,8,8,8,8,8,8,8,8,8,8,8,8,8,8,8,8,8,8,8,8,8,8,8,8,8,8,8,8,8,8,8,8,8,8,8,8,8,8,8,8,8,8,8,8,8,8,8,8,8,8,8,8,8,8,8,8,8,8,8,8,8,8,8,8,8,8,8,8,8,8,8,8,8,8,8,8,8,8,8,8,8,8,8,8,8,8,8,8,8,8,8,8,8,8,8,8,8,8,8,8,8,8,8,8,8,8,8,8,8,8,8,8,8,8]:List UInt8)[(IntKind.wrap .u8 (Int.fdiv y (2^(min (8:Int).toNat (IntKind.bits .u64)))):Int).toNat]?).map fun b=>V.int .u8 b.toNat else none).bind fun x5=>
    some [V.int .i64 (IntKind.wrap .i64 ((IntKind.wrap .i64 (n+8))+(IntKind.wrap .i64 x5.toInt)))]
   else
    (bif decide (0≤(IntKind.wrap .u8 y)) then (([0,1,2,2,3,3,3,3,4,4,4,4,4,4,4,4,5,5,5,5,5,5,5,5,5,5,5,5,5,5,5,5,6,6,6,6,6,6,6,6,6,6,6,6,6,6,6,6,6,6,6,6,6,6,6,6,6,6,6,6,6,6,6,6,7,7,7,7,7,7,7,7,7,7,7,7,7,7,7,7,7,7,7,7,7,7,7,7,7,7,7,7,7,7,7,7,7,7,7,7,7,7,7,7,7,7,7,7,7,7,7,7,7,7,7,7,7,7,7,7,7,7,7,7,7,7,7,7,8,8,8,8,8,8,8,8,8,8,8,8,8,8,8,8,8,8,8,8,8,8,8,8,8,8,8,8,8,8,8,8,8,8,8,8,8,8,8,8,8,8,8,8,8,8,8,8,8,8,8,8,8,8,8,8,8,8,8,8,8,8,8,8,8,8,8,8,8,8,8,8,8,8,8,8,8,8,8,8,8,8,8,8,8,8,8,8,8,8,8,8,8,8,8,8,8,8,8,8,8,8,8,8,8,8,8,8,8,8,8,8,8,8,8,8,8,8,8,8,8,8,8,8,8,8,8,8]:List UInt8)[(IntKind.wrap .u8 y:Int).toNat]?).map fun b=>V.int .u8 b.toNat else none).bind fun x6=>
    some [V.int .i64 (IntKind.wrap .i64 (n+(IntKind.wrap .i64 x6.toInt)))])
theorem adm {x:Nat} (h:x<2^64): ∃L:Nat,CC DF [.int .u64 (x:Int)]=some [.int .i64 (L:Int)]∧L≤64∧(0<x→1≤L∧2^(L-1)≤x):=by
 have last: ∀y n:Nat,y<65536→n≤48→∃t:Nat,
   w4 (y:Int) (n:Int)=some [V.int .i64 ((n+t:Nat):Int)]∧t≤16∧(0<y→1≤t∧2^(t-1)≤y):=by
  intro y n hy hn
  unfold w4
  rw[show ([0,1,2,2,3,3,3,3,4,4,4,4,4,4,4,4,5,5,5,5,5,5,5,5,5,5,5,5,5,5,5,5,6,6,6,6,6,6,6,6,6,6,6,6,6,6,6,6,6,6,6,6,6,6,6,6,6,6,6,6,6,6,6,6,7,7,7,7,7,7,7,7,7,7,7,7,7,7,7,7,7,7,7,7,7,7,7,7,7,7,7,7,7,7,7,7,7,7,7,7,7,7,7,7,7,7,7,7,7,7,7,7,7,7,7,7,7,7,7,7,7,7,7,7,7,7,7,7,8,8,8,8,8,8,8,8,8,8,8,8,8,8,8,8,8,8,8,8,8,8,8,8,8,8,8,8,8,8,8,8,8,8,8,8,8,8,8,8,8,8,8,8,8,8,8,8,8,8,8,8,8,8,8,8,8,8,8,8,8,8,8,8,8,8,8,8,8,8,8,8,8,8,8,8,8,8,8,8,8,8,8,8,8,8,8,8,8,8,8,8,8,8,8,8,8,8,8,8,8,8,8,8,8,8,8,8,8,8,8,8,8,8,8,8,8,8,8,8,8,8,8,8,8,8,8,8]:List UInt8)=EB from rfl]
  by_cases h1:y≥256
  ·have e:Int.fdiv (y:Int) (2^(min (8:Int).toNat (IntKind.bits .u64)))=((y/2^8:Nat):Int):=IY (m:=8) (by omega)
   obtain ⟨b,hb,b1,b2⟩:=RF (y:=y/2^8) (by omega)
   refine ⟨b.toNat+8,?_,by omega,fun _=> ?_⟩
   ·rw[e,aB,aj (by omega),yY (by omega) (by omega),aB,aj (by omega),Int.toNat_natCast,hb]
    simp only[Option.map_some,Option.bind_some,V.toInt_int]
    simp (disch:=omega) only[wrap64]
    congr 3
    omega
   ·obtain ⟨b3,b4⟩:=b2 (by omega)
    exact ⟨by omega,JL b4 b3⟩
  ·obtain ⟨b,hb,b1,b2⟩:=RF (y:=y) (by omega)
   refine ⟨b.toNat,?_,by omega,b2⟩
   rw[aB,ai (by omega),yY (by omega) (by omega),aB,aj (by omega),Int.toNat_natCast,hb]
   simp (disch:=omega) only[Option.map_some,Option.bind_some,V.toInt_int,wrap64]
   congr 3
 have mid: ∀y n:Nat,y<4294967296→n≤32→∃t:Nat,∀F:Int→Int→Option (List V),
   (∀y n:Nat,y<65536→n≤48→∃t:Nat,F (y:Int) (n:Int)=some [V.int .i64 ((n+t:Nat):Int)]∧t≤16∧(0<y→1≤t∧2^(t-1)≤y))→
   ∃t:Nat,ub CC (y:Int) (n:Int) (decide (((y:Int):Int)≥65536)) (un F)=some [V.int .i64 ((n+t:Nat):Int)]∧t≤32∧(0<y→1≤t∧2^(t-1)≤y):=by
  intro y n hy hn
  refine ⟨0,fun F hF=> ?_⟩
  unfold ub
  by_cases h1:y≥65536
  ·have e:Int.fdiv (y:Int) (2^(min (16:Int).toNat (IntKind.bits .u64)))=((y/2^16:Nat):Int):=IY (m:=16) (by omega)
   rw[aB,aj (by omega),e,wrap64 (by omega) (by omega)]
   obtain ⟨t,U,h3,h4⟩:=hF (y/2^16) (n+16) (by omega) (by omega)
   refine ⟨t+16,?_,by omega,fun _=> ?_⟩
   ·rw[show ((n:Int)+16)=((n+16:Nat):Int) by omega]
    simp only[un]
    rw[U]
    congr 3
    omega
   ·obtain ⟨b3,b4⟩:=h4 (by omega)
    exact ⟨by omega,JL b4 b3⟩
  ·rw[aB,ai (by omega)]
   obtain ⟨t,U,h3,h4⟩:=hF y n (by omega) (by omega)
   exact ⟨t,U,by omega,h4⟩
 by_cases h1:x≥4294967296
 ·have e:Int.fdiv (x:Int) (2^(min (32:Int).toNat (IntKind.bits .u64)))=((x/2^32:Nat):Int):=IY (m:=32) (by omega)
  obtain ⟨_,hm⟩:=mid (x/2^32) 32 (by omega) (by omega)
  obtain ⟨t,U,h3,h4⟩:=hm w4 last
  refine ⟨32+t,Rx ?_,by omega,fun _=> ?_⟩
  ·show ua CC (x:Int) 0 (decide (((x:Int):Int)≥4294967296)) (un fun (rS:Int) (Ar:Int)=>ub CC rS Ar (decide ((rS:Int)≥65536)) (un w4))=_
   unfold ua
   rw[aB,aj (by omega),e]
   exact U
  ·obtain ⟨b3,b4⟩:=h4 (by omega)
   rw[Nat.add_comm 32 t]
   exact ⟨by omega,JL b4 b3⟩
 ·obtain ⟨_,hm⟩:=mid x 0 (by omega) (by omega)
  obtain ⟨t,U,h3,h4⟩:=hm w4 last
  refine ⟨t,Rx ?_,by omega,h4⟩
  show ua CC (x:Int) 0 (decide (((x:Int):Int)≥4294967296)) (un fun (rS:Int) (Ar:Int)=>ub CC rS Ar (decide ((rS:Int)≥65536)) (un w4))=_
  unfold ua
  rw[aB,ai (by omega)]
  rw[gj] at U
  exact U
theorem RG {x:Nat} (h:x<2^64): ∃L:Nat,CC ze [.int .u64 (x:Int)]=some [.int .i64 (L:Int)]∧L≤64∧(0<x→1≤L∧2^(L-1)≤x):=by
 obtain ⟨L,h1,U⟩:=adm h
 refine ⟨L,ac5 ?_,U⟩
 unfold Rt
 rw[h1]
 rfl
theorem adn {x:Nat} (h0:0<x) (h:x<1152921504606846976): ∃M:Nat,CC DG [.int .i64 (x:Int)]=some [.int .u64 (M:Int)]∧1≤M∧M≤2*x:=by
 obtain ⟨L,h1,U,h3⟩:=RG (x:=x) (by omega)
 obtain ⟨h4,h5⟩:=h3 h0
 have e:2^L=2*2^(L-1):=by
  obtain ⟨k,rfl⟩: ∃k,L=k+1:=⟨L-1,by omega⟩
  rw[Nat.pow_succ];simp only[uw];omega
 have hL:L<64:=by
  by_cases hx:L<64
  ·exact hx
  ·have:2^63≤2^(L-1):=Nat.pow_le_pow_right (by omega) (by omega)
   omega
 refine ⟨2^L,ac4 ?_,Nat.pos_of_ne_zero (by simp),by omega⟩
 unfold Rs
 rw[zw (A:=x) (by omega),h1]
 simp only[Option.bind_some,V.aU,V.toInt_int]
 rw[aB,aj (by omega),Int.toNat_natCast,Ys hL]
theorem ado (r:Int): ∃R:Nat,CC DH [.int .u64 r]=some [.int .u64 (R:Int),.int .u64 (R:Int)]∧R<2^64:=by
 have h: ∀n:Int,∃R:Nat,IntKind.wrap .u64 n=(R:Int)∧R<2^64:=fun n=>⟨(IntKind.wrap .u64 n).toNat,by rw[wrap_u64];omega,by rw[wrap_u64];omega⟩
 obtain ⟨R,h1,U⟩:=h _
 exact ⟨R,ac3 (by unfold Rr;rw[h1]),U⟩
theorem EC {d:Array XE} {i:Nat} (h:i<d.size):idx (eA d) (i:Int)=some (d[i]!).enc:=by rw[N5,fx h]
theorem JM {d:Array XE} {a b:Nat} {s:Int} (ha:a<d.size) (hb:b<d.size): ∃(x y:Nat) (s':Int),CC vY [.list aa (eA d),.int .i64 (a:Int),.int .i64 (b:Int),.int .i64 s]=some [.int .i64 (x:Int),.int .i64 (y:Int),.int .i64 s']∧(x=a∧y=b∨x=b∧y=a):=by
 by_cases h:bN d[b]! d[a]! <0
 ·refine ⟨b,a,_,Rm (by unfold JJ;rw[EC hb,EC ha];simp only[Option.bind_some,XE.br,XE.bt,XE.bu,gf,V.aU,V.toInt_int];rw[aB,aj h]),.inr ⟨rfl,rfl⟩⟩
 ·refine ⟨a,b,_,Rm (by unfold JJ;rw[EC hb,EC ha];simp only[Option.bind_some,XE.br,XE.bt,XE.bu,gf,V.aU,V.toInt_int];rw[aB,ai h]),.inl ⟨rfl,rfl⟩⟩
theorem JN {d:Array XE} {a b c:Nat} {s:Int} (ha:a<d.size) (hb:b<d.size) (hc:c<d.size): ∃(m:Nat) (s':Int),CC zj [.list aa (eA d),.int .i64 (a:Int),.int .i64 (b:Int),.int .i64 (c:Int),.int .i64 s]=some [.int .i64 (m:Int),.int .i64 s']∧(m=a∨m=b∨m=c):=by
 obtain ⟨x1,y1,s1,e1,o1⟩:=JM (s:=s) ha hb
 obtain ⟨x2,y2,s2,e2,o2⟩:=JM (d:=d) (a:=y1) (b:=c) (s:=s1) (by omega) hc
 obtain ⟨x3,y3,s3,e3,o3⟩:=JM (d:=d) (a:=x1) (b:=x2) (s:=s2) (by omega) (by omega)
 refine ⟨y3,s3,acY ?_,by omega⟩
 unfold Rl
 rw[e1]
 simp only[Option.bind_some,V.aU,V.qi,V.toInt_int,j5,iI]
 rw[e2]
 simp only[Option.bind_some,V.aU,V.qi,V.toInt_int,j5,iI]
 rw[e3]
 rfl
theorem JO {d:Array XE} {a:Nat} {s:Int} (h1:1≤a) (ha:a+1<d.size) (hs:d.size<1152921504606846976): ∃(m:Nat) (s':Int),CC vX [.list aa (eA d),.int .i64 (a:Int),.int .i64 s]=some [.int .i64 (m:Int),.int .i64 s']∧a≤m+1∧m≤a+1:=by
 obtain ⟨m,s',e,o⟩:=JN (d:=d) (a:=a-1) (b:=a) (c:=a+1) (s:=s) (by omega) (by omega) (by omega)
 refine ⟨m,s',acZ ?_,by omega,by omega⟩
 unfold Rn
 simp (disch:=omega) only[jS,dy,wrap64]
 rw[e]
 rfl
theorem JP (n:Nat):Int.tdiv (n:Int) 4=((n/4:Nat):Int):=by
 have:=divC n 4
 exact this
theorem mulC (k n:Nat):((k:Nat):Int)*(n:Int)=((k*n:Nat):Int):=(Int.natCast_mul k n).symm
theorem adp {d:Array XE} {a b:Nat} (eQ:a+12<b) (hb:b≤d.size) (hs:d.size<1152921504606846976): ∃(p:Nat) (h:Int),CC zh [.list aa (eA d),.int .i64 (a:Int),.int .i64 (b:Int)]=some [.int .i64 (p:Int),.int .i64 h]∧a≤p∧p<b:=by
 have fin: ∀(p:Nat) (s:Int),∃h:Int,(bif (s:Int)==0 then some [V.int .i64 (p:Int),V.int .i64 1] else bif (s:Int)==12 then some [V.int .i64 (p:Int),V.int .i64 2] else some [V.int .i64 (p:Int),V.int .i64 0])=some [V.int .i64 (p:Int),V.int .i64 h]:=by
  intro p s
  rw[eT]
  split
  ·exact ⟨1,rfl⟩
  ·rw[eT]
   split
   ·exact ⟨2,rfl⟩
   ·exact ⟨0,rfl⟩
 have e1:IntKind.wrap .i64 ((b:Int)-(a:Int))=((b-a:Nat):Int):=by rw[mc (by omega),wrap64 (by omega) (by omega)]
 have e2:IntKind.wrap .i64 (Int.tdiv ((b-a:Nat):Int) 4)=(((b-a)/4:Nat):Int):=by rw[JP,wrap64 (by omega) (by omega)]
 have e3: ∀k:Nat,k≤3→IntKind.wrap .i64 ((a:Int)+IntKind.wrap .i64 ((k:Int)*(((b-a)/4:Nat):Int)))=((a+k*((b-a)/4):Nat):Int):=by
  intro k hk
  have lR:k*((b-a)/4)≤3*((b-a)/4):=dj _ hk
  simp (disch:=omega) only[mulC,wrap64,fy]
 have JQ:=e3 1 (by omega)
 have rT:=e3 2 (by omega)
 have JR:=e3 3 (by omega)
 rw[show ((1:Nat):Int)=1 from rfl] at JQ
 rw[show ((2:Nat):Int)=2 from rfl] at rT
 rw[show ((3:Nat):Int)=3 from rfl] at JR
 by_cases h50:b-a≥50
 ·obtain ⟨m1,s1,q1,r1⟩:=JO (d:=d) (a:=a+1*((b-a)/4)) (s:=0) (by omega) (by omega) hs
  obtain ⟨m2,s2,q2,r2⟩:=JO (d:=d) (a:=a+2*((b-a)/4)) (s:=s1) (by omega) (by omega) hs
  obtain ⟨m3,s3,q3,r3⟩:=JO (d:=d) (a:=a+3*((b-a)/4)) (s:=s2) (by omega) (by omega) hs
  obtain ⟨m,s,q,r⟩:=JN (d:=d) (a:=m1) (b:=m2) (c:=m3) (s:=s3) (by omega) (by omega) (by omega)
  obtain ⟨h,hf⟩:=fin m s
  refine ⟨m,h,Rk ?_,by omega,by omega⟩
  unfold JH Ao An
  rw[e1,e2,JQ,rT,JR,mX (by omega),cond_true,mX (by omega),cond_true,q1]
  simp only[Option.bind_some,V.aU,V.qi,V.toInt_int,j5,iI]
  rw[q2]
  simp only[Option.bind_some,V.aU,V.qi,V.toInt_int,j5,iI]
  rw[q3]
  simp only[Option.bind_some,V.aU,V.qi,V.toInt_int,j5,iI,un]
  rw[q]
  exact hf
 ·obtain ⟨m,s,q,r⟩:=JN (d:=d) (a:=a+1*((b-a)/4)) (b:=a+2*((b-a)/4)) (c:=a+3*((b-a)/4)) (s:=0) (by omega) (by omega) (by omega)
  obtain ⟨h,hf⟩:=fin m s
  refine ⟨m,h,Rk ?_,by omega,by omega⟩
  unfold JH Ao An
  rw[e1,e2,JQ,rT,JR,mX (by omega),cond_true,rM (by omega),cond_false]
  simp only[un]
  rw[q]
  exact hf
theorem adq {a b M:Nat} (hM1:1≤M) (hM:M≤2*(b-a)) (h8:8≤b-a) (hB:b<1152921504606846976): ∀(n i:Nat) (d:Array XE) (r:Int),a+2*((b-a)/4)+2-i=n→a≤i→b≤d.size→d.size<1152921504606846976→
  ∃x y z R,Loop (Ey CC a (b-a:Nat) M) ((i:Int),eA d,r)=some (x,y,eA R,z)∧PermIn a b d R:=by
 have e2:IntKind.wrap .i64 (Int.tdiv ((b-a:Nat):Int) 4)=(((b-a)/4:Nat):Int):=by rw[JP,wrap64 (by omega) (by omega)]
 have rT:IntKind.wrap .i64 ((a:Int)+IntKind.wrap .i64 (2*(((b-a)/4:Nat):Int)))=((a+2*((b-a)/4):Nat):Int):=by
  have:=mulC 2 ((b-a)/4)
  rw[show ((2:Nat):Int)=2 from rfl] at this
  rw[this]
  simp (disch:=omega) only[wrap64,fy]
 intro n
 induction n with
 | zero=>
  intro i d r hn hi hb hs
  refine ⟨(i:Int),false,r,d,bd ?_,permIn_refl _ _ _⟩
  simp only[Ey,Aq,un]
  rw[e2,rT,dy,wrap64 (by omega) (by omega),rM (by omega),cond_false]
 | succ n ih=>
  intro i d r hn hi hb hs
  obtain ⟨R1,q1,q2⟩:=ado r
  obtain ⟨o,ho,kU⟩: ∃o:Nat,(o=if R1&&&(M-1)≥b-a then (R1&&&(M-1))-(b-a) else R1&&&(M-1))∧o<b-a:=by
   refine ⟨_,rfl,?_⟩
   have:R1&&&(M-1)≤M-1:=Nat.and_le_right
   split<;>omega
  have hand:R1&&&(M-1)≤M-1:=Nat.and_le_right
  have hP:=swp_permIn (α:=XE) d a b i (a+o) hi (by omega) (by omega) (by omega) hb
  obtain ⟨x,y,z,R,e,hR⟩:=ih (i+1) (swp d i (a+o)) (R1:Int) (by omega) (by omega) (by rw[size_swp];exact hb) (by rw[size_swp];exact hs)
  refine ⟨x,y,z,R,(bU ?_).trans e,permIn_trans _ _ _ a b hP hR⟩
  simp only[Ey,Aq,un]
  rw[e2,rT,dy,wrap64 (x:=((a+2*((b-a)/4)+1:Nat):Int)) (by omega) (by omega),mX (by omega),cond_true,q1]
  simp only[Option.bind_some,V.aU,V.qi,V.toInt_int,j5,iI]
  have e5:IntKind.wrap .u64 ((M:Int)-1)=((M-1:Nat):Int):=by rw[jS hM1,zw (by omega)]
  rw[e5,u64_and q2 (by omega),wrap64 (x:=((R1&&&(M-1):Nat):Int)) (by omega) (by omega)]
  have fin: ∀k:Int,k=(o:Int)→(bif (decide (0≤(IntKind.wrap .i64 ((a:Int)+k))))&&(decide ((IntKind.wrap .i64 ((a:Int)+k))<((eA d).length:Int))) then
   ((eA d)[(IntKind.wrap .i64 ((a:Int)+k):Int).toNat]?).bind fun x4=>
   bif (decide (0≤(i:Int)))&&(decide ((i:Int)<((eA d).length:Int))) then
    ((eA d)[((i:Int):Int).toNat]?).bind fun x5=>
    bif (decide (0≤(i:Int)))&&(decide ((i:Int)<((eA d).length:Int))) then
    ((eA d)[((i:Int):Int).toNat]?).bind fun x6=>
    bif (decide (0≤(IntKind.wrap .i64 ((a:Int)+k))))&&(decide ((IntKind.wrap .i64 ((a:Int)+k))<(((eA d).set (((i:Int):Int).toNat) (.agg [.int .i64 ((x4.cell 0).toInt),.int .i64 ((x4.cell 1).toInt),.list aa ((x4.cell 2).toList)])).length:Int))) then
     (((eA d).set (((i:Int):Int).toNat) (.agg [.int .i64 ((x4.cell 0).toInt),.int .i64 ((x4.cell 1).toInt),.list aa ((x4.cell 2).toList)]))[(IntKind.wrap .i64 ((a:Int)+k):Int).toNat]?).bind fun x7=>
     some (.inl (IntKind.wrap .i64 ((i:Int)+1),((eA d).set (((i:Int):Int).toNat) (.agg [.int .i64 ((x4.cell 0).toInt),.int .i64 ((x4.cell 1).toInt),.list aa ((x4.cell 2).toList)])).set ((IntKind.wrap .i64 ((a:Int)+k):Int).toNat) (.agg [.int .i64 ((x5.cell 0).toInt),.int .i64 ((x5.cell 1).toInt),.list aa ((x5.cell 2).toList)]),(R1:Int)))
    else none
    else none
   else none
   else none:Option ((Int × List V × Int) ⊕ (Int × Bool × List V × Int)))=some (.inl (((i+1:Nat):Int),eA (swp d i (a+o)),(R1:Int))):=by
   intro k hk
   subst hk
   simp (disch:=omega) only[aB,dh,gD,aj,ai,wrap64,dy,fy,Int.toNat_natCast,Option.bind_some,fv,fx,XE.br,XE.bt,XE.bu,XE.re,fw,hO,gn,gf,V.aU,V.toInt_int,cond_true,cond_false]
   rfl
  unfold Ew
  by_cases h:R1&&&(M-1)≥b-a
  ·rw[aj h] at ho
   rw[mX (by omega),cond_true]
   exact fin _ (by rw[mc (by omega),wrap64 (by omega) (by omega)];omega)
  ·rw[ai h] at ho
   rw[rM (by omega),cond_false]
   exact fin _ (by omega)
theorem adr {a b:Nat} {d:Array XE} (eQ:a+12<b) (hb:b≤d.size) (hs:d.size<1152921504606846976): ∃R,CC DC [.int .i64 (a:Int),.int .i64 (b:Int),.list aa (eA d)]=some [.list aa (eA R)]∧PermIn a b d R:=by
 obtain ⟨M,q1,q2,q3⟩:=adn (x:=b-a) (by omega) (by omega)
 have e1:IntKind.wrap .i64 ((b:Int)-(a:Int))=((b-a:Nat):Int):=by rw[mc (by omega),wrap64 (by omega) (by omega)]
 have e2:IntKind.wrap .i64 (Int.tdiv ((b-a:Nat):Int) 4)=(((b-a)/4:Nat):Int):=by rw[JP,wrap64 (by omega) (by omega)]
 have rT:IntKind.wrap .i64 ((a:Int)+IntKind.wrap .i64 (2*(((b-a)/4:Nat):Int)))=((a+2*((b-a)/4):Nat):Int):=by
  have:=mulC 2 ((b-a)/4)
  rw[show ((2:Nat):Int)=2 from rfl] at this
  rw[this]
  simp (disch:=omega) only[wrap64,fy]
 obtain ⟨x,y,z,R,e,hR⟩:=adq (a:=a) (b:=b) (M:=M) q2 q3 (by omega) (by omega) _ (a+2*((b-a)/4)-1) d (IntKind.wrap .u64 ((b-a:Nat):Int)) rfl (by omega) hb hs
 refine ⟨R,ac2 ?_,hR⟩
 unfold Rq
 rw[e1,aB,aj (by omega),q1]
 simp only[Option.bind_some,V.aU,V.toInt_int]
 rw[e2,rT,jS (by omega),wrap64 (x:=((a+2*((b-a)/4)-1:Nat):Int)) (by omega) (by omega),e]
 rfl
noncomputable def rU (C:ag) (a b':Int) (et eL:Bool) (cu dz:Int) (me:List V) {β:Type} (kn:(Int × Int × Int × Bool × Bool × (List V))→Option β):Option β:=
      bif decide ((a:Int)>0) then
       bif (decide (0≤(IntKind.wrap .i64 (a-1))))&&(decide ((IntKind.wrap .i64 (a-1))<(me.length:Int))) then
       (me[(IntKind.wrap .i64 (a-1):Int).toNat]?).bind fun jt=>
       bif (decide (0≤dz))&&(decide (dz<(me.length:Int))) then
        (me[(dz:Int).toNat]?).bind fun m8=>
        (C a8 [.int .i64 ((jt.cell 0).toInt),.int .i64 ((jt.cell 1).toInt),.list aa ((jt.cell 2).toList),.int .i64 ((m8.cell 0).toInt),.int .i64 ((m8.cell 1).toInt),.list aa ((m8.cell 2).toList)]).bind fun ln=>
        bif !(decide ((((V.nth ln 0).toInt):Int)<0)) then
        (C tz [.int .i64 a,.int .i64 b',.int .i64 dz,.list aa me]).bind fun kD=>
        kn ((V.nth kD 0).toInt,b',cu,et,eL,(V.nth (kD.drop 1) 0).toList)
        else
        (C mS [.int .i64 a,.int .i64 b',.int .i64 dz,.list aa me]).bind fun dC=>
        bif decide (((IntKind.wrap .i64 (((V.nth dC 0).toInt)-a)):Int)<(IntKind.wrap .i64 (b'-((V.nth dC 0).toInt)))) then
         (C fW [.int .i64 a,.int .i64 ((V.nth dC 0).toInt),.int .i64 cu,.list aa ((V.nth (dC.drop 2) 0).toList)]).bind fun iF=>
         kn (IntKind.wrap .i64 (((V.nth dC 0).toInt)+1),b',cu,decide (((IntKind.wrap .i64 (((V.nth dC 0).toInt)-a)):Int)≥(IntKind.wrap .i64 (Int.tdiv (IntKind.wrap .i64 (b'-a)) 8))),(V.nth (dC.drop 1) 0).toBool,(V.nth iF 0).toList)
        else
         (C fW [.int .i64 (IntKind.wrap .i64 (((V.nth dC 0).toInt)+1)),.int .i64 b',.int .i64 cu,.list aa ((V.nth (dC.drop 2) 0).toList)]).bind fun ep=>
         kn (a,(V.nth dC 0).toInt,cu,decide (((IntKind.wrap .i64 (b'-((V.nth dC 0).toInt))):Int)≥(IntKind.wrap .i64 (Int.tdiv (IntKind.wrap .i64 (b'-a)) 8))),(V.nth (dC.drop 1) 0).toBool,(V.nth ep 0).toList)
       else none
       else none
      else
       (C mS [.int .i64 a,.int .i64 b',.int .i64 dz,.list aa me]).bind fun ja=>
       bif decide (((IntKind.wrap .i64 (((V.nth ja 0).toInt)-a)):Int)<(IntKind.wrap .i64 (b'-((V.nth ja 0).toInt)))) then
       (C fW [.int .i64 a,.int .i64 ((V.nth ja 0).toInt),.int .i64 cu,.list aa ((V.nth (ja.drop 2) 0).toList)]).bind fun oj=>
       kn (IntKind.wrap .i64 (((V.nth ja 0).toInt)+1),b',cu,decide (((IntKind.wrap .i64 (((V.nth ja 0).toInt)-a)):Int)≥(IntKind.wrap .i64 (Int.tdiv (IntKind.wrap .i64 (b'-a)) 8))),(V.nth (ja.drop 1) 0).toBool,(V.nth oj 0).toList)
       else
       (C fW [.int .i64 (IntKind.wrap .i64 (((V.nth ja 0).toInt)+1)),.int .i64 b',.int .i64 cu,.list aa ((V.nth (ja.drop 2) 0).toList)]).bind fun jT=>
       kn (a,(V.nth ja 0).toInt,cu,decide (((IntKind.wrap .i64 (b'-((V.nth ja 0).toInt))):Int)≥(IntKind.wrap .i64 (Int.tdiv (IntKind.wrap .i64 (b'-a)) 8))),(V.nth (ja.drop 1) 0).toBool,(V.nth jT 0).toList)
theorem ED (C:ag) (a b' iZ:Int) (et eL:Bool) (ak:List V) {β:Type} (kn:(Int × Int × Int × Bool × Bool × (List V))→Option β) (kr:(List V)→Option β):
  pe C a b' iZ et eL ak kn kr=
 bif decide (((IntKind.wrap .i64 (b'-a)):Int)≤12) then
  (C zf [.int .i64 a,.int .i64 b',.list aa ak]).bind fun r1=>
  kr ((V.nth r1 0).toList)
 else
  bif (iZ:Int)==0 then
  (C zg [.int .i64 a,.int .i64 b',.list aa ak]).bind fun r2=>
  kr ((V.nth r2 0).toList)
  else
  wX C a b' iZ et eL (IntKind.wrap .i64 (b'-a)) (!et) ak (un fun (cu:Int) (Au:List V)=>
   (C zh [.list aa Au,.int .i64 a,.int .i64 b']).bind fun r6=>
   wY C a b' cu et eL (IntKind.wrap .i64 (b'-a)) ((V.nth r6 0).toInt) ((V.nth (r6.drop 1) 0).toInt) ((((V.nth (r6.drop 1) 0).toInt):Int)==2) Au (un fun (dz:Int)=>un fun (JK:Int) (oe:List V)=>
    bif et then
     bif eL then
     mg C a b' cu et eL (IntKind.wrap .i64 (b'-a)) dz ((JK:Int)==1) oe (b6 (un fun (O9:Bool) (JS:List V)=>
      kr JS) (fun (me:List V)=>rU C a b' et eL cu dz me kn))
     else
     mg C a b' cu et eL (IntKind.wrap .i64 (b'-a)) dz false oe (b6 (un fun (Pg:Bool) (ads:List V)=>
      kr ads) (fun (adt:List V)=>rU C a b' et eL cu dz adt kn))
    else
     mg C a b' cu et eL (IntKind.wrap .i64 (b'-a)) dz false oe (b6 (un fun (YL:Bool) (adu:List V)=>
      kr adu) (fun (adv:List V)=>rU C a b' et eL cu dz adv kn)))):=rfl
section
variable {a b:Nat} {lim:Int} {wb wp:Bool}
theorem adw {d:Array XE} (eQ:a+12<b) (hb:b≤d.size) (hs:d.size<1152921504606846976) (len:Int) (t:Bool): ∃(l1:Int) (d1:Array XE),PermIn a b d d1∧∀(β:Type) (kr:(Int × List V)→Option β),wX CC a b lim wb wp len t (eA d) kr=kr (l1,eA d1):=by
 cases t with
 | true=>
  obtain ⟨R,e,hR⟩:=adr eQ hb hs
  refine ⟨IntKind.wrap .i64 (lim-1),R,hR,fun β kr=> ?_⟩
  unfold wX
  rw[cond_true,e]
  rfl
 | false=>exact ⟨lim,d,permIn_refl _ _ _,fun β kr=>rfl⟩
theorem adx {d:Array XE} (eQ:a+12<b) (hb:b≤d.size) (hs:d.size<1152921504606846976) (len h:Int) (t:Bool) {p:Nat} (h1:a≤p) (U:p<b): ∃(p2:Nat) (U:Int) (d1:Array XE),a≤p2∧p2<b∧PermIn a b d d1∧∀(β:Type) (kr:(Int × Int × List V)→Option β),wY CC a b lim wb wp len p h t (eA d) kr=kr ((p2:Int),U,eA d1):=by
 cases t with
 | true=>
  refine ⟨b-1-(p-a),1,reverseRange d a b,by omega,by omega,reverseRange_holds d a b (by omega) hb,fun β kr=> ?_⟩
  unfold wY
  rw[cond_true,ack (by omega) hb hs]
  simp (disch:=omega) only[Option.bind_some,V.aU,V.lf,jS,mc,wrap64]
 | false=>exact ⟨p,h,d,h1,U,permIn_refl _ _ _,fun β kr=>rfl⟩
theorem ady {d:Array XE} (eQ:a+12<b) (hb:b≤d.size) (hs:d.size<1152921504606846976) (hB:Below ay a b d) (len p:Int) (t:Bool): ∃d1:Array XE,PermIn a b d d1∧
  ((∀(β:Type) (kr:((Bool × List V) ⊕ List V)→Option β),mg CC a b lim wb wp len p t (eA d) kr=kr (.inr (eA d1)))∨
  (SortedIn ay a b d1∧∀(β:Type) (kr:((Bool × List V) ⊕ List V)→Option β),mg CC a b lim wb wp len p t (eA d) kr=kr (.inl (true,eA d1)))):=by
 cases t with
 | true=>
  have hp:=partialInsertionSort_holds (lt:=ay) wZ d a b (by omega) hb hB
  refine ⟨_,hp.1,?_⟩
  cases h:(partialInsertionSort ay d a b).2 with
  | true=>
   refine .inr ⟨hp.2 h,fun β kr=> ?_⟩
   unfold mg
   rw[cond_true,Rg (by omega) hb hs,h]
   rfl
  | false=>
   refine .inl fun β kr=> ?_
   unfold mg
   rw[cond_true,Rg (by omega) hb hs,h]
   rfl
 | false=>exact ⟨d,permIn_refl _ _ _,.inl fun β kr=>rfl⟩
end
def EE (a b:Nat) (d:Array XE):Prop:= ∀(lim:Int) (wb wp:Bool),∃R,Loop (RA CC) ((a:Int),(b:Int),lim,wb,wp,eA d)=some (eA R)∧PermIn a b d R∧SortedIn ay a b R
theorem EE.call {a b:Nat} {d:Array XE} (h:EE a b d) (lim:Int): ∃R,CC fW [.int .i64 (a:Int),.int .i64 (b:Int),.int .i64 lim,.list aa (eA d)]=some [.list aa (eA R)]∧PermIn a b d R∧SortedIn ay a b R:=by
 obtain ⟨R,e,h1,U⟩:=h lim true true
 refine ⟨R,adi ?_,h1,U⟩
 unfold RC
 rw[e]
 rfl
theorem adz {a b p:Nat} {d:Array XE} (eQ:a+12<b) (hb:b≤d.size) (hs:d.size<1152921504606846976) (hB:Below ay a b d) (h1:a≤p) (U:p<b)
  (ih: ∀(a2 b2:Nat) (d2:Array XE),b2-a2<b-a→a2≤b2→b2≤d2.size→d2.size<1152921504606846976→Below ay a2 b2 d2→EE a2 b2 d2) (wb wp:Bool) (lim:Int):
  ∃(a2 b2:Nat) (ud ue:Bool) (d2:Array XE),b2-a2<b-a∧a2≤b2∧b2≤d2.size∧d2.size<1152921504606846976∧Below ay a2 b2 d2∧
   (∀R,PermIn a2 b2 d2 R→SortedIn ay a2 b2 R→PermIn a b d R∧SortedIn ay a b R)∧
   ∀(β:Type) (kn:(Int × Int × Int × Bool × Bool × (List V))→Option β),rU CC a b wb wp lim p (eA d) kn=kn ((a2:Int),(b2:Int),lim,ud,ue,eA d2):=by
 have part: ∃(a2 b2:Nat) (ud ue:Bool) (d2:Array XE),b2-a2<b-a∧a2≤b2∧b2≤d2.size∧d2.size<1152921504606846976∧Below ay a2 b2 d2∧
   (∀R,PermIn a2 b2 d2 R→SortedIn ay a2 b2 R→PermIn a b d R∧SortedIn ay a b R)∧
   ∀(β:Type) (kn:(Int × Int × Int × Bool × Bool × (List V))→Option β),
    ((CC mS [.int .i64 (a:Int),.int .i64 (b:Int),.int .i64 (p:Int),.list aa (eA d)]).bind fun dC=>
        bif decide (((IntKind.wrap .i64 (((V.nth dC 0).toInt)-(a:Int))):Int)<(IntKind.wrap .i64 ((b:Int)-((V.nth dC 0).toInt)))) then
         (CC fW [.int .i64 (a:Int),.int .i64 ((V.nth dC 0).toInt),.int .i64 lim,.list aa ((V.nth (dC.drop 2) 0).toList)]).bind fun iF=>
         kn (IntKind.wrap .i64 (((V.nth dC 0).toInt)+1),(b:Int),lim,decide (((IntKind.wrap .i64 (((V.nth dC 0).toInt)-(a:Int))):Int)≥(IntKind.wrap .i64 (Int.tdiv (IntKind.wrap .i64 ((b:Int)-(a:Int))) 8))),(V.nth (dC.drop 1) 0).toBool,(V.nth iF 0).toList)
        else
         (CC fW [.int .i64 (IntKind.wrap .i64 (((V.nth dC 0).toInt)+1)),.int .i64 (b:Int),.int .i64 lim,.list aa ((V.nth (dC.drop 2) 0).toList)]).bind fun ep=>
         kn ((a:Int),(V.nth dC 0).toInt,lim,decide (((IntKind.wrap .i64 ((b:Int)-((V.nth dC 0).toInt))):Int)≥(IntKind.wrap .i64 (Int.tdiv (IntKind.wrap .i64 ((b:Int)-(a:Int))) 8))),(V.nth (dC.drop 1) 0).toBool,(V.nth ep 0).toList))=kn ((a2:Int),(b2:Int),lim,ud,ue,eA d2):=by
  obtain ⟨mid,ap,d4,hx⟩: ∃mid ap d4,partition ay d a b p=(mid,ap,d4):=⟨_,_,_,rfl⟩
  obtain ⟨g1,g2,om,hBa,hBr,adA,adB⟩:=round_part wZ (partition_holds ay) h1 U hb hB hx
  have hc:=acN (a:=a) (b:=b) (pivot:=p) (d:=d) U (by omega) hb hs
  rw[hx] at hc
  by_cases hl:mid-a<b-mid
  ·obtain ⟨L,e,l1,l2⟩:=(ih a mid d4 (by omega) g1 (by rw[om];omega) (by rw[om];exact hs) hBa).call lim
   obtain ⟨JT,Av⟩:=adA _ l1 l2
   refine ⟨mid+1,b,decide (((IntKind.wrap .i64 ((mid:Int)-(a:Int))):Int)≥(IntKind.wrap .i64 (Int.tdiv (IntKind.wrap .i64 ((b:Int)-(a:Int))) 8))),ap,L,by omega,by omega,by rw[l1.1,om];exact hb,by rw[l1.1,om];exact hs,JT,Av,fun β kn=> ?_⟩
   ·rw[hc]
    simp only[Option.bind_some,V.aU,V.qi,V.toInt_int,V.dV,V.lf,j5,iI]
    rw[aB,aj (by rw[mc g1,mc (by omega),wrap64 (by omega) (by omega),wrap64 (by omega) (by omega)];omega),e]
    simp only[Option.bind_some,V.aU,V.lf]
    rw[dy,wrap64 (x:=((mid+1:Nat):Int)) (by omega) (by omega)]
  ·obtain ⟨L,e,l1,l2⟩:=(ih (mid+1) b d4 (by omega) (by omega) (by rw[om];exact hb) (by rw[om];exact hs) hBr).call lim
   obtain ⟨JT,Av⟩:=adB _ l1 l2
   refine ⟨a,mid,decide (((IntKind.wrap .i64 ((b:Int)-(mid:Int))):Int)≥(IntKind.wrap .i64 (Int.tdiv (IntKind.wrap .i64 ((b:Int)-(a:Int))) 8))),ap,L,by omega,by omega,by rw[l1.1,om];omega,by rw[l1.1,om];exact hs,JT,Av,fun β kn=> ?_⟩
   ·rw[hc]
    simp only[Option.bind_some,V.aU,V.qi,V.toInt_int,V.dV,V.lf,j5,iI]
    rw[aB,ai (by rw[mc g1,mc (by omega),wrap64 (by omega) (by omega),wrap64 (by omega) (by omega)];omega),dy,wrap64 (x:=((mid+1:Nat):Int)) (by omega) (by omega),e]
    simp only[Option.bind_some,V.aU,V.lf]
 by_cases ha:0<a
 ·by_cases hc:bN d[a-1]! d[p]! <0
  ·obtain ⟨a2,b2,ud,ue,d2,q1,q2,q3,q4,q5,q6,q7⟩:=part
   refine ⟨a2,b2,ud,ue,d2,q1,q2,q3,q4,q5,q6,fun β kn=> ?_⟩
   rw[←q7 β kn]
   unfold rU
   rw[aB,aj (by omega),jS ha,wrap64 (by omega) (by omega),jU (i:=a-1) (by omega),jV (by omega),jU (i:=p) (by omega),jV (by omega)]
   simp only[XE.br,XE.bt,XE.bu,gf,Option.bind_some,V.aU,V.toInt_int]
   rw[gD,aB,aj hc]
  ·obtain ⟨mid,d4,hx⟩: ∃mid d4,partitionEqual ay d a b p=(mid,d4):=⟨_,_,rfl⟩
   obtain ⟨g1,FX,om,hB4,Av⟩:=round_eq wZ (partitionEqual_holds ay) ha h1 U hb hB (by rw[EA,←propext (adk _ _)];exact hc) hx
   have he:=acP (a:=a) (b:=b) (pivot:=p) (d:=d) U (by omega) hb hs
   rw[hx] at he
   refine ⟨mid,b,wb,wp,d4,by omega,FX,by rw[om];exact hb,by rw[om];exact hs,hB4,Av,fun β kn=> ?_⟩
   unfold rU
   rw[aB,aj (by omega),jS ha,wrap64 (by omega) (by omega),jU (i:=a-1) (by omega),jV (by omega),jU (i:=p) (by omega),jV (by omega)]
   simp only[XE.br,XE.bt,XE.bu,gf,Option.bind_some,V.aU,V.toInt_int]
   rw[gD,aB,ai hc,he]
   rfl
 ·obtain ⟨a2,b2,ud,ue,d2,q1,q2,q3,q4,q5,q6,q7⟩:=part
  refine ⟨a2,b2,ud,ue,d2,q1,q2,q3,q4,q5,q6,fun β kn=> ?_⟩
  rw[←q7 β kn]
  unfold rU
  rw[aB,ai (by omega)]
theorem adC: ∀(n a b:Nat) (d:Array XE),b-a≤n→a≤b→b≤d.size→d.size<1152921504606846976→Below ay a b d→EE a b d:=by
 intro n
 induction n with
 | zero=>
  intro a b d hn eQ hb hs hB lim wb wp
  have hi:=insertionSort_holds (lt:=ay) wZ d a b eQ hb
  refine ⟨_,bd ?_,hi⟩
  show pe CC a b lim wb wp (eA d) (fun y=>some (Sum.inl y)) (fun r=>some (Sum.inr r))=_
  rw[ED,aB,aj (by rw[mc eQ,wrap64 (by omega) (by omega)];omega),QX hb hs (by omega)]
  rfl
 | succ n ih=>
  intro a b d hn eQ hb hs hB lim wb wp
  by_cases h12:b-a≤12
  ·have hi:=insertionSort_holds (lt:=ay) wZ d a b eQ hb
   refine ⟨_,bd ?_,hi⟩
   show pe CC a b lim wb wp (eA d) (fun y=>some (Sum.inl y)) (fun r=>some (Sum.inr r))=_
   rw[ED,aB,aj (by rw[mc eQ,wrap64 (by omega) (by omega)];omega),QX hb hs (by omega)]
   rfl
  ·have Aw:a+12<b:=by omega
   have rv: ¬(((IntKind.wrap .i64 ((b:Int)-(a:Int))):Int)≤12):=by rw[mc eQ,wrap64 (by omega) (by omega)];omega
   by_cases h0:lim=0
   ·have hi:=heapSort_holds (lt:=ay) wZ d a b eQ hb
    refine ⟨_,bd ?_,hi⟩
    show pe CC a b lim wb wp (eA d) (fun y=>some (Sum.inl y)) (fun r=>some (Sum.inr r))=_
    rw[ED,aB,ai rv,eT,aj h0,aci (by omega) hb hs]
    rfl
   ·obtain ⟨l1,d1,s1,k1⟩:=adw (lim:=lim) (wb:=wb) (wp:=wp) Aw hb hs (IntKind.wrap .i64 ((b:Int)-(a:Int))) (!wb)
    have b1:b≤d1.size:=by rw[s1.1];exact hb
    have z1:d1.size<1152921504606846976:=by rw[s1.1];exact hs
    obtain ⟨p,h,c1,p1,p2⟩:=adp Aw b1 z1
    obtain ⟨q,U,d2,q1,q2,s2,k2⟩:=adx (lim:=l1) (wb:=wb) (wp:=wp) Aw b1 z1 (IntKind.wrap .i64 ((b:Int)-(a:Int))) h (h==2) p1 p2
    have b2:b≤d2.size:=by rw[s2.1];exact b1
    have z2:d2.size<1152921504606846976:=by rw[s2.1];exact z1
    have B2:Below ay a b d2:=(hB.perm hb s1).perm b1 s2
    obtain ⟨t,ht⟩: ∃t:Bool,t=(bif wb then (bif wp then (U==1) else false) else false):=⟨_,rfl⟩
    obtain ⟨d3,s3,k3⟩:=ady (lim:=l1) (wb:=wb) (wp:=wp) Aw b2 z2 B2 (IntKind.wrap .i64 ((b:Int)-(a:Int))) (q:Int) t
    have b3:b≤d3.size:=by rw[s3.1];exact b2
    have z3:d3.size<1152921504606846976:=by rw[s3.1];exact z2
    have B3:Below ay a b d3:=B2.perm b2 s3
    have P3:PermIn a b d d3:=permIn_trans _ _ _ a b (permIn_trans _ _ _ a b s1 s2) s3
    have step: ∀(β:Type) (kn:(Int × Int × Int × Bool × Bool × (List V))→Option β) (kr:(List V)→Option β),pe CC a b lim wb wp (eA d) kn kr=
      mg CC a b l1 wb wp (IntKind.wrap .i64 ((b:Int)-(a:Int))) (q:Int) t (eA d2) (b6 (un fun (O9:Bool) (JS:List V)=>kr JS) (fun (me:List V)=>rU CC a b wb wp l1 q me kn)):=by
     intro β kn kr
     rw[ED,aB,ai rv,eT,ai h0,k1]
     simp only[un]
     rw[c1]
     simp only[Option.bind_some,V.aU,V.qi,V.toInt_int,j5,iI]
     rw[k2]
     simp only[un]
     rw[ht]
     cases wb
     ·rfl
     ·cases wp
      ·rfl
      ·rfl
    rcases k3 with k3|⟨k3s,k3⟩
    ·obtain ⟨a4,b4,wb4,wp4,d4,r1,r2,r3,r4,r5,r6,r7⟩:=adz Aw b3 z3 B3 q1 q2 (fun a2 b2 d2 aP h1 U h3 h4=>ih a2 b2 d2 (by omega) h1 U h3 h4) wb wp l1
     obtain ⟨R,e,e1,e2⟩:=ih a4 b4 d4 (by omega) r2 r3 r4 r5 l1 wb4 wp4
     obtain ⟨f1,f2⟩:=r6 R e1 e2
     refine ⟨R,(bU ?_).trans e,permIn_trans _ _ _ a b P3 f1,f2⟩
     show pe CC a b lim wb wp (eA d) (fun y=>some (Sum.inl y)) (fun r=>some (Sum.inr r))=_
     rw[step,k3]
     exact r7 _ (fun y=>some (Sum.inl y))
    ·refine ⟨d3,bd ?_,P3,k3s⟩
     show pe CC a b lim wb wp (eA d) (fun y=>some (Sum.inl y)) (fun r=>some (Sum.inr r))=_
     rw[step,k3]
     rfl
theorem adD (l:List XE) (hs:l.length<1152921504606846976): ∃R:List XE,CC zd [.list aa (l.map XE.enc)]=some [.list aa (R.map XE.enc)]∧R.Perm l∧R.Pairwise (fun x y=> ¬y.lt x):=by
 obtain ⟨L,e1,_⟩:=RG (x:=l.length) (by omega)
 obtain ⟨R,e2,h1,U⟩:=(adC _ 0 l.toArray.size l.toArray (b7 _) (jZ _) (b7 _) (by simpa using hs) (.inl rfl)).call (L:Int)
 have aS:R.size=l.length:=by rw[h1.1];simp
 refine ⟨R.toList,adj ?_,?_,?_⟩
 ·unfold RD
  rw[bn,zw (A:=l.length) (by omega),e1]
  simp only[Option.bind_some,V.aU,V.toInt_int]
  have e3:eA l.toArray=l.map XE.enc:=by simp[o9]
  rw[e3,show ((l.toArray.size:Nat):Int)=(l.length:Int) by simp,show ((0:Nat):Int)=0 from rfl] at e2
  rw[e2]
  rfl
 ·have h3:=h1.2.2
  rw[show l.toArray.size=R.size from h1.1.symm,Array.extract_size,h1.1,Array.extract_size] at h3
  exact h3
 ·rw[Bf]
  intro i j hi hj sX
  have h3:=U i j (jZ _) sX (by simpa[←aS] using hj)
  rw[EA] at h3
  have dH:i<R.size:=by simpa using hi
  have fT:j<R.size:=by simpa using hj
  rw[getElem!_pos R i dH,getElem!_pos R j fT] at h3
  simpa using h3
end Go.AM.SX
set_option maxRecDepth 100000
namespace Go.AM
open Go.Proofs
noncomputable abbrev EF:Code:=cK Try.prog (az.aZ 106)
noncomputable def w5 (C:ag) (Ax uf:Nat) (k' jW:Int) (ss:List V) {β:Type} (kn:(Int × Int × (List V))→Option β) (kr:(Int × Int × Bool × (List V))→Option β):Option β:=
 bif decide ((jW:Int)<(uf:Int)) then
  bif (decide (0≤jW))&&(decide (jW<(uf:Int))) then
  (ss[Ax+((jW:Int).toNat)]?).bind fun x4=>
  bif (decide (0≤(IntKind.wrap .i64 (jW-1))))&&(decide ((IntKind.wrap .i64 (jW-1))<(uf:Int))) then
   (ss[Ax+((IntKind.wrap .i64 (jW-1):Int).toNat)]?).bind fun x5=>
   (C o0 [.int .i64 ((x4.cell 0).toInt),.int .i64 ((x4.cell 1).toInt),.list aa ((x4.cell 2).toList),.int .i64 ((x5.cell 0).toInt),.int .i64 ((x5.cell 1).toInt),.list aa ((x5.cell 2).toList)]).bind fun r6=>
   bif !((V.nth r6 0).toBool) then
   bif (decide (0≤jW))&&(decide (jW<(uf:Int))) then
    (ss[Ax+((jW:Int).toNat)]?).bind fun x7=>
    bif (decide (0≤k'))&&(decide (k'<(ss.length:Int))) then
    (ss[(k':Int).toNat]?).bind fun x8=>
    kn (IntKind.wrap .i64 (k'+1),IntKind.wrap .i64 (jW+1),ss.set ((k':Int).toNat) (.agg [.int .i64 ((x7.cell 0).toInt),.int .i64 ((x7.cell 1).toInt),.list aa ((x7.cell 2).toList)]))
    else none
   else none
   else
   kn (k',IntKind.wrap .i64 (jW+1),ss)
  else none
  else none
 else
  kr (k',jW,decide ((jW:Int)<(uf:Int)),ss)
noncomputable def ug (C:ag) (Ax uf:Nat):(Int × Int × (List V))→Option ((Int × Int × (List V)) ⊕ (Int × Int × Bool × (List V))):=un fun k'=>un fun jW ss=>w5 C Ax uf k' jW ss (fun y=>some (.inl y)) (fun r=>some (.inr r))
noncomputable def w6 (C:ag) (ss:List V) (k':Int) {β:Type} (kn:Int→Option β) (kr:((List V) ⊕ (Int × Bool))→Option β):Option β:=
 bif decide ((k':Int)<(ss.length:Int)) then
  bif (decide (0≤k'))&&(decide (k'<(ss.length:Int))) then
  (ss[(k':Int).toNat]?).bind fun x1=>
  bif (decide (0≤(IntKind.wrap .i64 (k'-1))))&&(decide ((IntKind.wrap .i64 (k'-1))<(ss.length:Int))) then
   (ss[(IntKind.wrap .i64 (k'-1):Int).toNat]?).bind fun x2=>
   (C o0 [.int .i64 ((x1.cell 0).toInt),.int .i64 ((x1.cell 1).toInt),.list aa ((x1.cell 2).toList),.int .i64 ((x2.cell 0).toInt),.int .i64 ((x2.cell 1).toInt),.list aa ((x2.cell 2).toList)]).bind fun r3=>
   bif (V.nth r3 0).toBool then
   bif (decide (0≤k'))&&(decide (k'≤(ss.length:Int))) then
    (Loop (ug C ((k':Int).toNat) (ss.length-((k':Int).toNat))) (k',1,ss)).bind (un fun (mh:Int)=>un fun (ahI:Int)=>un fun (zz:Bool) (qx:List V)=>
     bif (decide (0≤mh))&&(decide (mh≤(qx.length:Int))) then
     bif (decide (0≤mh))&&(decide (mh≤((qx.take ((mh:Int).toNat)++(List.replicate (qx.length-((mh:Int).toNat)) (V.agg [.int .i64 0,.int .i64 0,.list aa ([]:List V)])++qx.drop (((mh:Int).toNat)+(qx.length-((mh:Int).toNat))))).length:Int))) then
      kr (.inl ((qx.take ((mh:Int).toNat)++(List.replicate (qx.length-((mh:Int).toNat)) (V.agg [.int .i64 0,.int .i64 0,.list aa ([]:List V)])++qx.drop (((mh:Int).toNat)+(qx.length-((mh:Int).toNat))))).take ((mh:Int).toNat)))
     else none
     else none)
   else none
   else
   kn (IntKind.wrap .i64 (k'+1))
  else none
  else none
 else
  kr (.inr (k',decide ((k':Int)<(ss.length:Int))))
noncomputable def uh (C:ag) (ss:List V):(Int)→Option ((Int) ⊕ ((List V) ⊕ (Int × Bool))):=fun k'=>w6 C ss k' (fun y=>some (.inl y)) (fun r=>some (.inr r))
noncomputable def RH (C:ag):cz:=fun β n ds k=>
 bif Nat.beq n 145 then cl Ik [true,false,false,true,true] [[0,2,3,0,0,0]] (@w5 C) ds k else
 bif Nat.beq n 65 then cl Il [true,false] [[0],[0,0,2]] (@w6 C) ds k else
 none
abbrev RI (C:ag) (b:cw):Prop:=cx Try.prog az C (RH C) 106 (cN Try.prog (az.aZ 106)) (az.sin 106).a9.length b
theorem adE (C:ag):RI C (.loop (ax [1,1,0,1,0,0,1,0,0,1,0,1,0,1,0,0] EF)):=
 cy Ik [true,false,false,true,true] [[0,2,3,0,0,0]] (@w5 C) (by kernel_rfl) (bh (bs:=[]) (by kernel_rfl) aw) (fun ds=>by kernel_rfl) (fun i x=>by kernel_rfl) (fun i x β k=>by kernel_rfl) (fun β ds k=>by kernel_rfl)
theorem adF (C:ag):RI C (.loop (ax [1,1,0,1,0,0] EF)):=
 cy Il [true,false] [[0],[0,0,2]] (@w6 C) (by kernel_rfl) (bh (bs:=[.loop (ax [1,1,0,1,0,0,1,0,0,1,0,1,0,1,0,0] EF)]) (by kernel_rfl) (bH (adE C) aw)) (fun ds=>by kernel_rfl) (fun i x=>by kernel_rfl) (fun i x β k=>by kernel_rfl) (fun β ds k=>by kernel_rfl)
noncomputable def EG (C:ag) (ss:List V):Option (List V):=
 bif decide (((ss.length:Int):Int)<2) then
  some [V.bool true,.list aa ss]
 else
  (Loop (uh C ss) 1).bind (b6 (fun (adG:List V)=>
   some [V.bool false,.list aa adG]) (un fun (ahJ:Int) (zB:Bool)=>
   some [V.bool true,.list aa ss]))
theorem JU {ss:List V} {r:Option (List V)} (h:EG CC ss=r):CC DB [.list aa ss]=r:=
 ba (key:=106) (L:=RH CC) (bs:=[.loop (ax [1,1,0,1,0,0] EF)]) (by kernel_rfl) (bH (adF CC) aw) (aX (by kernel_rfl) h)
noncomputable def RJ (C:ag) (gb:List V):Option (List V):=
 (C zd [.list aa gb]).bind fun r1=>
 (C DB [.list aa ((V.nth r1 0).toList)]).bind fun r2=>
 bif (V.nth r2 0).toBool then
  some [V.bool true,.list aa ((V.nth (r2.drop 1) 0).toList)]
 else
  some [V.bool false,.list aa ((V.nth (r2.drop 1) 0).toList)]
theorem adH {gb:List V} {r:Option (List V)} (h:RJ CC gb=r):CC tx [.list aa gb]=r:=
 ba (key:=98) (L:=cb) (bs:=[]) (by kernel_rfl) aw (aX (by kernel_rfl) h)
noncomputable def RK (C:ag) (fX fY:Int) (gG:List V) (fZ ga:Int) (gH:List V):Option (List V):=
 (C a8 [.int .i64 fX,.int .i64 fY,.list aa gG,.int .i64 fZ,.int .i64 ga,.list aa gH]).bind fun r1=>
 some [.bool ((((V.nth r1 0).toInt):Int)==0)]
theorem adI {fX fY:Int} {gG:List V} {fZ ga:Int} {gH:List V} {r:Option (List V)} (h:RK CC fX fY gG fZ ga gH=r):CC o0 [.int .i64 fX,.int .i64 fY,.list aa gG,.int .i64 fZ,.int .i64 ga,.list aa gH]=r:=
 ba (key:=107) (L:=cb) (bs:=[]) (by kernel_rfl) aw (aX (by kernel_rfl) h)
end Go.AM
set_option maxRecDepth 100000
namespace Go.AM
open Go.Proofs Ex
def nh (prev:Ex):List Ex→List Ex
 | []=>[]
 | x::l=>if cmp x prev=0 then nh x l else x::nh x l
def iG:List Ex→List Ex
 | []=>[]
 | x::l=>x::nh x l
theorem RL: ∀(m:List Ex) (prev x:Ex),nh prev (m++[x])=nh prev m++(if cmp x ((prev::m).getD m.length bc)=0 then [] else [x])
 | [],prev,x=>by simp only[List.nil_append,nh,List.length_nil,xw]
 | y::m,prev,x=>by
  have ih:=RL m y x
  simp only[List.cons_append,nh,List.length_cons,List.getD_cons_succ]
  split
  ·exact ih
  ·rw[ih];rfl
theorem RM {l:List Ex} {p:Nat} (h1:1≤p) (U:p<l.length):iG (l.take (p+1))=iG (l.take p)++(if cmp (l.getD p bc) (l.getD (p-1) bc)=0 then [] else [l.getD p bc]):=by
 match l,p,h1,U with
 | y::l,p+1,_,U=>
  simp only[List.length_cons] at U
  rw[List.take_succ_cons,List.take_succ_cons,iG,iG,kC (by omega),RL]
  simp only[List.getD_cons_succ,fg,uw]
  rw[show min p l.length=p by omega]
  have:(y::l.take p).getD p bc=(y::l).getD p bc:=by
   match p with
   | 0=>rfl
   | q+1=>simp only[List.getD_cons_succ];rw[hY,hY,eE (by omega)]
  rw[this];rfl
theorem RN: ∀(m:List Ex) (prev:Ex),(prev::m).Pairwise (fun x y=> ¬y.lx x)→jr (prev::nh prev m)∧∀x,x∈prev::nh prev m↔x∈prev::m
 | [],prev,_=>⟨by simp[nh],by simp[nh]⟩
 | y::m,prev,h=>by
  have h1:=sg.1 h
  obtain ⟨i1,i2⟩:=RN m y h1.2
  rw[nh]
  by_cases hc:cmp y prev=0
  ·rw[aj hc]
   have:=tJ _ _ hc
   subst this
   refine ⟨i1,fun x=> ?_⟩
   rw[i2 x];simp
  ·rw[ai hc]
   have aP:prev.lx y:=by
    by_cases U:prev.lx y
    ·exact U
    ·exact absurd (Ex.PW U (h1.1 y (by simp))) fun e=>hc (by rw[e];exact zF _)
   refine ⟨sg.2 ⟨fun x hx=> ?_,i1⟩,fun x=> ?_⟩
   ·rcases cY.1 hx with rfl|hx
    ·exact aP
    ·exact Ex.Ja aP ((sg.1 i1).1 x hx)
   ·rw[cY,i2 x,←cY]
theorem adJ {l:List Ex} (h:l.Pairwise (fun x y=> ¬y.lx x)):jr (iG l)∧∀x,x∈iG l↔x∈l:=by
 match l,h with
 | [],_=>exact ⟨List.Pairwise.nil,fun _=>Iff.rfl⟩
 | y::l,h=>exact RN l y h
theorem RO (a:Ex) (ha:a.Ok) (b:Ex) (hb:b.Ok):CC o0 (bK a (bK b []))=some [.bool (decide (cmp a b=0))]:=by
 refine adI ?_
 unfold RK
 refine (congrArg (fun o=>Option.bind o _) (PN a ha b hb)).trans ?_
 simp only[Option.bind_some,V.aU,V.toInt_int]
 rw[zM]
section
variable {l:List Ex} (hn:l.length≤1000000) (au: ∀k∈l,k.Ok)
include hn au
theorem adK {k:Nat}: ∀(d k2 i:Nat) (ss:List Ex),k+k2+d=l.length→1≤k2→i+1≤k+k2→ss.length=l.length→ss.take i=iG (l.take (k+k2))→ss.drop (k+k2-1)=l.drop (k+k2-1)→
  ∃t u eI,Loop (ug CC k (l.length-k)) ((i:Int),(k2:Int),ss.map enc)=some (((iG l).length:Int),u,t,List.map enc eI)∧eI.take (iG l).length=iG l∧eI.length=l.length:=by
 intro d
 induction d with
 | zero=>
  intro k2 i ss hj lR hi hl ht hd
  have e0:l.take (k+k2)=l:=List.take_of_length_le (by omega)
  rw[e0] at ht
  have gz:i=(iG l).length:=by rw[←ht,fg];omega
  refine ⟨false,(k2:Int),ss,bd ?_,by rw[←gz];exact ht,hl⟩
  simp only[ug,w5,un,bn,aB]
  rw[ai (by omega),cS (by omega),gz]
 | succ d ih=>
  intro k2 i ss hj lR hi hl ht hd
  have hp:k+k2<l.length:=by omega
  have im:ss.drop (k+k2)=l.drop (k+k2):=by
   have h:=congrArg (List.drop 1) hd
   rw[pr,pr] at h
   rwa [show k+k2-1+1=k+k2 by omega] at h
  have g1:=zV hl im hp
  have g0:=zV hl hd (show k+k2-1<l.length by omega)
  have x1:(ss.map enc)[k+k2]? =some (l.getD (k+k2) bc).enc:=by rw[od (by omega),g1]
  have x0:(ss.map enc)[k+(k2-1)]? =some (l.getD (k+k2-1) bc).enc:=by rw[show k+(k2-1)=k+k2-1 by omega,od (by omega),g0]
  have w1:IntKind.wrap .i64 ((k2:Int)-1)=((k2-1:Nat):Int):=by rw[wrap64 (by omega) (by omega)];omega
  have t1:((k2:Nat):Int)<((l.length-k:Nat):Int):=by omega
  have t2:(0:Int)≤((k2:Nat):Int):=by omega
  have t3:(0:Int)≤((k2-1:Nat):Int):=by omega
  have t4:((k2-1:Nat):Int)<((l.length-k:Nat):Int):=by omega
  have t5:((i:Nat):Int)<(ss.length:Int):=by omega
  have t6:(0:Int)≤((i:Nat):Int):=by omega
  have bZ: ∃y,(ss.map enc)[i]? =some y:=⟨_,od (by omega)⟩
  obtain ⟨y,hy⟩:=bZ
  have co:=RO (l.getD (k+k2) bc) (D3 au hp) (l.getD (k+k2-1) bc) (D3 au (by omega))
  have cs:=RM (l:=l) (p:=k+k2) (by omega) hp
  by_cases he:cmp (l.getD (k+k2) bc) (l.getD (k+k2-1) bc)=0
  ·have bM:ug CC k (l.length-k) ((i:Int),(k2:Int),ss.map enc)=some (.inl ((i:Int),((k2+1:Nat):Int),ss.map enc)):=by
    simp only[ug,w5,un,bn,aB,dh,w1,t1,t2,t3,t4,dc,Int.toNat_natCast,x1,x0,Option.bind_some,br,bt,bu]
    refine (congrArg (fun o=>Option.bind o _) co).trans ?_
    simp only[Option.bind_some,V.aU,V.dV]
    rw[eg he,pq,cond_false,wrap64 (by omega) (by omega)]
    rfl
   rw[bU bM]
   refine ih (k2+1) i ss (by omega) (by omega) (by omega) hl ?_ (by rw[show k+(k2+1)-1=k+k2 by omega];exact im)
   rw[show k+(k2+1)=k+k2+1 by omega,cs,aj he,dA,ht]
  ·have bM:ug CC k (l.length-k) ((i:Int),(k2:Int),ss.map enc)=some (.inl (((i+1:Nat):Int),((k2+1:Nat):Int),(ss.set i (l.getD (k+k2) bc)).map enc)):=by
    simp only[ug,w5,un,bn,aB,dh,w1,t1,t2,t3,t4,t5,t6,dc,Int.toNat_natCast,x1,x0,hy,Option.bind_some,br,bt,bu]
    refine (congrArg (fun o=>Option.bind o _) co).trans ?_
    simp only[Option.bind_some,V.aU,V.dV]
    rw[cS he,sh,cond_true,wrap64 (by omega) (by omega),wrap64 (by omega) (by omega),←eu,xx]
    rfl
   rw[bU bM]
   refine ih (k2+1) (i+1) (ss.set i (l.getD (k+k2) bc)) (by omega) (by omega) (by omega) (by simpa using hl) ?_ ?_
   ·rw[kC (by rw[nn];omega),Bi (b7 i),ht,show k+(k2+1)=k+k2+1 by omega,cs,ai he]
    simp[show i<ss.length by omega]
   ·rw[show k+(k2+1)-1=k+k2 by omega,Bj (by omega),im]
theorem adL: ∀(d p:Nat),p+d=l.length→1≤p→iG (l.take p)=l.take p→
  (iG l=l∧∃t,Loop (uh CC (l.map enc)) (p:Int)=some (.inr t))∨Loop (uh CC (l.map enc)) (p:Int)=some (.inl ((iG l).map enc)):=by
 intro d
 induction d with
 | zero=>
  intro p hp h1 hc
  obtain rfl:p=l.length:=by omega
  rw[pn] at hc
  refine .inl ⟨hc,((l.length:Int),false),bd ?_⟩
  simp only[uh,w6,bn,aB]
  rw[ai (by omega),cS (by omega)]
 | succ d ih=>
  intro p hp h1 hc
  have bL:p<l.length:=by omega
  have cs:=RM (l:=l) h1 bL
  have co:=RO (l.getD p bc) (D3 au bL) (l.getD (p-1) bc) (D3 au (by omega))
  have x1:(l.map enc)[p]? =some (l.getD p bc).enc:=od bL
  have x0:(l.map enc)[p-1]? =some (l.getD (p-1) bc).enc:=od (by omega)
  have w1:IntKind.wrap .i64 ((p:Int)-1)=((p-1:Nat):Int):=by rw[wrap64 (by omega) (by omega)];omega
  have t1:((p:Nat):Int)<(l.length:Int):=by omega
  have t2:(0:Int)≤((p:Nat):Int):=by omega
  have t3:(0:Int)≤((p-1:Nat):Int):=by omega
  have t4:((p-1:Nat):Int)<(l.length:Int):=by omega
  have t5:((p:Nat):Int)≤(l.length:Int):=by omega
  by_cases he:cmp (l.getD p bc) (l.getD (p-1) bc)=0
  ·refine .inr (bd ?_)
   obtain ⟨t,u,eI,e1,e2,e3⟩:=adK hn au (k:=p) (l.length-(p+1)) 1 p l (by omega) (by omega) (by omega) rfl (by rw[cs,aj he,dA,hc]) rfl
   have hm:(iG l).length≤eI.length:=by
    have:=congrArg List.length e2
    rw[fg] at this
    omega
   have m1:(0:Int)≤(((iG l).length:Nat):Int):=by omega
   have m2:(((iG l).length:Nat):Int)≤((eI.map enc).length:Int):=by rw[bn];omega
   simp only[uh,w6,bn,aB,dh,w1,t1,t2,t3,t4,t5,dc,Int.toNat_natCast,x1,x0,Option.bind_some,br,bt,bu]
   refine (congrArg (fun o=>Option.bind o _) co).trans ?_
   simp only[Option.bind_some,V.aU,V.dV]
   rw[eg he,cond_true]
   refine (congrArg (fun o=>Option.bind o _) e1).trans ?_
   simp only[Option.bind_some,un,dh,aB,Int.toNat_natCast]
   rw[aj m1,aj m2,aj m1,aj (by simp only[ca,fg,sf,se,bn];omega),Eh _ _ _ hm,e2]
  ·have bM:uh CC (l.map enc) (p:Int)=some (.inl ((p+1:Nat):Int)):=by
    simp only[uh,w6,bn,aB,dh,w1,t1,t2,t3,t4,dc,Int.toNat_natCast,x1,x0,Option.bind_some,br,bt,bu]
    refine (congrArg (fun o=>Option.bind o _) co).trans ?_
    simp only[Option.bind_some,V.aU,V.dV]
    rw[cS he,cond_false,wrap64 (by omega) (by omega)]
    rfl
   rw[bU bM]
   exact ih (p+1) (by omega) (by omega) (by rw[cs,ai he,hc,←kC bL])
theorem adM: ∃b,CC DB [.list aa (l.map enc)]=some [.bool b,.list aa ((iG l).map enc)]:=by
 by_cases U:l.length<2
 ·refine ⟨true,JU ?_⟩
  unfold EG
  rw[bn,aB,aj (by omega)]
  match l,U with
  | [],_=>rfl
  | [k],_=>rfl
 ·rcases adL hn au (l.length-1) 1 (by omega) (by omega) (by
   match l,U with
   | k::l,_=>rfl) with ⟨h3,t,h4⟩|h4
  ·refine ⟨true,JU ?_⟩
   unfold EG
   rw[bn,aB,ai (by omega)]
   refine (congrArg (fun o=>Option.bind o _) h4).trans ?_
   rw[h3];rfl
  ·refine ⟨false,JU ?_⟩
   unfold EG
   rw[bn,aB,ai (by omega)]
   refine (congrArg (fun o=>Option.bind o _) h4).trans ?_
   rfl
theorem adN: ∃R:List Ex,CC zd [.list aa (l.map enc)]=some [.list aa (R.map enc)]∧R.Perm l∧R.Pairwise (fun x y=> ¬y.lx x):=by
 have hx: ∃L:List SX.XE,L.map SX.XE.e=l:=by
  clear hn
  induction l with
  | nil=>exact ⟨[],rfl⟩
  | cons k l ih=>
   obtain ⟨L,hL⟩:=ih fun k hk=>au k (by simp[hk])
   exact ⟨⟨k,au k (by simp)⟩::L,by rw[cH,hL]⟩
 obtain ⟨L,rfl⟩:=hx
 have he: ∀L:List SX.XE,L.map SX.XE.enc=(L.map SX.XE.e).map enc:=fun L=>by rw[List.map_map];rfl
 obtain ⟨R,e1,h1,U⟩:=SX.adD L (by rw[bn] at hn;omega)
 refine ⟨R.map SX.XE.e,?_,h1.map _,List.pairwise_map.2 U⟩
 rw[←he,←he];exact e1
theorem RP: ∃b,CC tx [.list aa (l.map enc)]=some [.bool b,.list aa ((l.foldl fu []).map enc)]:=by
 obtain ⟨R,e1,h1,U⟩:=adN hn au
 obtain ⟨b,e2⟩:=adM (l:=R) (by rw[h1.length_eq];exact hn) fun k hk=>au k (h1.mem_iff.1 hk)
 obtain ⟨c1,c2⟩:=adJ U
 have hc:iG R=l.foldl fu []:=Jb c1 Ec fun x=>by rw[c2,wq,h1.mem_iff]
 rw[hc] at e2
 refine ⟨b,adH ?_⟩
 unfold RJ
 refine (congrArg (fun o=>Option.bind o _) e1).trans ?_
 simp only[Option.bind_some,V.aU,V.lf]
 refine (congrArg (fun o=>Option.bind o _) e2).trans ?_
 cases b<;>rfl
end
end Go.AM
set_option maxRecDepth 100000
namespace Go.AM
open Go.Proofs
noncomputable def RQ (C:ag) (kids:List V):Option (List V):=
 (C HI [.list aa kids]).bind fun r1=>
 bif (V.nth r1 0).toBool then
  (C rD []).bind fun r2=>
  some [.int .i64 ((V.nth r2 0).toInt),.int .i64 ((V.nth (r2.drop 1) 0).toInt),.list aa ((V.nth (r2.drop 2) 0).toList)]
 else
  (C vW [.int .i64 4,.list aa kids]).bind fun r3=>
  (C DK [.list aa ((V.nth r3 0).toList)]).bind fun r4=>
  bif (V.nth r4 0).toBool then
  (C tx [.list aa ((V.nth (r4.drop 1) 0).toList)]).bind fun r5=>
  bif (V.nth r5 0).toBool then
   (C oZ []).bind fun r6=>
   (C lW [.int .i64 4,.list aa ((V.nth (r5.drop 1) 0).toList),.int .i64 ((V.nth r6 0).toInt),.int .i64 ((V.nth (r6.drop 1) 0).toInt),.list aa ((V.nth (r6.drop 2) 0).toList)]).bind fun r7=>
   some [.int .i64 ((V.nth r7 0).toInt),.int .i64 ((V.nth (r7.drop 1) 0).toInt),.list aa ((V.nth ((r7.drop 1).drop 1) 0).toList)]
  else
   (C oZ []).bind fun r8=>
   (C lW [.int .i64 4,.list aa ((V.nth (r5.drop 1) 0).toList),.int .i64 ((V.nth r8 0).toInt),.int .i64 ((V.nth (r8.drop 1) 0).toInt),.list aa ((V.nth (r8.drop 2) 0).toList)]).bind fun r9=>
   some [.int .i64 ((V.nth r9 0).toInt),.int .i64 ((V.nth (r9.drop 1) 0).toInt),.list aa ((V.nth ((r9.drop 1).drop 1) 0).toList)]
  else
  (C tx [.list aa ((V.nth (r4.drop 1) 0).toList)]).bind fun dW=>
  bif (V.nth dW 0).toBool then
   (C oZ []).bind fun eM=>
   (C lW [.int .i64 4,.list aa ((V.nth (dW.drop 1) 0).toList),.int .i64 ((V.nth eM 0).toInt),.int .i64 ((V.nth (eM.drop 1) 0).toInt),.list aa ((V.nth (eM.drop 2) 0).toList)]).bind fun fA=>
   some [.int .i64 ((V.nth fA 0).toInt),.int .i64 ((V.nth (fA.drop 1) 0).toInt),.list aa ((V.nth ((fA.drop 1).drop 1) 0).toList)]
  else
   (C oZ []).bind fun gd=>
   (C lW [.int .i64 4,.list aa ((V.nth (dW.drop 1) 0).toList),.int .i64 ((V.nth gd 0).toInt),.int .i64 ((V.nth (gd.drop 1) 0).toInt),.list aa ((V.nth (gd.drop 2) 0).toList)]).bind fun kB=>
   some [.int .i64 ((V.nth kB 0).toInt),.int .i64 ((V.nth (kB.drop 1) 0).toInt),.list aa ((V.nth ((kB.drop 1).drop 1) 0).toList)]
theorem adO {kids:List V} {r:Option (List V)} (h:RQ CC kids=r):CC Du [.list aa kids]=r:=
 ba (key:=78) (L:=cb) (bs:=[]) (by kernel_rfl) aw (aX (by kernel_rfl) h)
noncomputable def RR (C:ag) (kids:List V):Option (List V):=
 (C rB [.list aa kids]).bind fun r1=>
 bif (V.nth r1 0).toBool then
  (C oZ []).bind fun r2=>
  some [.int .i64 ((V.nth r2 0).toInt),.int .i64 ((V.nth (r2.drop 1) 0).toInt),.list aa ((V.nth (r2.drop 2) 0).toList)]
 else
  (C vW [.int .i64 5,.list aa kids]).bind fun r3=>
  (C DI [.list aa ((V.nth r3 0).toList)]).bind fun r4=>
  bif (V.nth r4 0).toBool then
  (C tw []).bind fun r5=>
  (C lW [.int .i64 5,.list aa ((V.nth (r4.drop 1) 0).toList),.int .i64 ((V.nth r5 0).toInt),.int .i64 ((V.nth (r5.drop 1) 0).toInt),.list aa ((V.nth (r5.drop 2) 0).toList)]).bind fun r6=>
  some [.int .i64 ((V.nth r6 0).toInt),.int .i64 ((V.nth (r6.drop 1) 0).toInt),.list aa ((V.nth ((r6.drop 1).drop 1) 0).toList)]
  else
  (C tw []).bind fun r7=>
  (C lW [.int .i64 5,.list aa ((V.nth (r4.drop 1) 0).toList),.int .i64 ((V.nth r7 0).toInt),.int .i64 ((V.nth (r7.drop 1) 0).toInt),.list aa ((V.nth (r7.drop 2) 0).toList)]).bind fun r8=>
  some [.int .i64 ((V.nth r8 0).toInt),.int .i64 ((V.nth (r8.drop 1) 0).toInt),.list aa ((V.nth ((r8.drop 1).drop 1) 0).toList)]
theorem adP {kids:List V} {r:Option (List V)} (h:RR CC kids=r):CC Dw [.list aa kids]=r:=
 ba (key:=79) (L:=cb) (bs:=[]) (by kernel_rfl) aw (aX (by kernel_rfl) h)
noncomputable def RS (C:ag) (kids:List V):Option (List V):=
 (C rB [.list aa kids]).bind fun r1=>
 bif (V.nth r1 0).toBool then
  (C oZ []).bind fun r2=>
  some [.int .i64 ((V.nth r2 0).toInt),.int .i64 ((V.nth (r2.drop 1) 0).toInt),.list aa ((V.nth (r2.drop 2) 0).toList)]
 else
  (C vW [.int .i64 6,.list aa kids]).bind fun r3=>
  (C vV [.list aa ((V.nth r3 0).toList)]).bind fun r4=>
  bif (V.nth r4 0).toBool then
  (C tx [.list aa ((V.nth (r4.drop 1) 0).toList)]).bind fun r5=>
  bif (V.nth r5 0).toBool then
   (C rD []).bind fun r6=>
   (C lW [.int .i64 6,.list aa ((V.nth (r5.drop 1) 0).toList),.int .i64 ((V.nth r6 0).toInt),.int .i64 ((V.nth (r6.drop 1) 0).toInt),.list aa ((V.nth (r6.drop 2) 0).toList)]).bind fun r7=>
   some [.int .i64 ((V.nth r7 0).toInt),.int .i64 ((V.nth (r7.drop 1) 0).toInt),.list aa ((V.nth ((r7.drop 1).drop 1) 0).toList)]
  else
   (C rD []).bind fun r8=>
   (C lW [.int .i64 6,.list aa ((V.nth (r5.drop 1) 0).toList),.int .i64 ((V.nth r8 0).toInt),.int .i64 ((V.nth (r8.drop 1) 0).toInt),.list aa ((V.nth (r8.drop 2) 0).toList)]).bind fun r9=>
   some [.int .i64 ((V.nth r9 0).toInt),.int .i64 ((V.nth (r9.drop 1) 0).toInt),.list aa ((V.nth ((r9.drop 1).drop 1) 0).toList)]
  else
  (C tx [.list aa ((V.nth (r4.drop 1) 0).toList)]).bind fun dW=>
  bif (V.nth dW 0).toBool then
   (C rD []).bind fun eM=>
   (C lW [.int .i64 6,.list aa ((V.nth (dW.drop 1) 0).toList),.int .i64 ((V.nth eM 0).toInt),.int .i64 ((V.nth (eM.drop 1) 0).toInt),.list aa ((V.nth (eM.drop 2) 0).toList)]).bind fun fA=>
   some [.int .i64 ((V.nth fA 0).toInt),.int .i64 ((V.nth (fA.drop 1) 0).toInt),.list aa ((V.nth ((fA.drop 1).drop 1) 0).toList)]
  else
   (C rD []).bind fun gd=>
   (C lW [.int .i64 6,.list aa ((V.nth (dW.drop 1) 0).toList),.int .i64 ((V.nth gd 0).toInt),.int .i64 ((V.nth (gd.drop 1) 0).toInt),.list aa ((V.nth (gd.drop 2) 0).toList)]).bind fun kB=>
   some [.int .i64 ((V.nth kB 0).toInt),.int .i64 ((V.nth (kB.drop 1) 0).toInt),.list aa ((V.nth ((kB.drop 1).drop 1) 0).toList)]
theorem adQ {kids:List V} {r:Option (List V)} (h:RS CC kids=r):CC Dx [.list aa kids]=r:=
 ba (key:=80) (L:=cb) (bs:=[]) (by kernel_rfl) aw (aX (by kernel_rfl) h)
noncomputable def JV (C:ag) (op:Int) (kids:List V):Option (List V):=
 bif (op:Int)==4 then
  (C Du [.list aa kids]).bind fun r1=>
  some [.int .i64 ((V.nth r1 0).toInt),.int .i64 ((V.nth (r1.drop 1) 0).toInt),.list aa ((V.nth ((r1.drop 1).drop 1) 0).toList)]
 else
  bif (op:Int)==5 then
  (C Dw [.list aa kids]).bind fun r2=>
  some [.int .i64 ((V.nth r2 0).toInt),.int .i64 ((V.nth (r2.drop 1) 0).toInt),.list aa ((V.nth ((r2.drop 1).drop 1) 0).toList)]
  else
  bif (op:Int)==6 then
   (C Dx [.list aa kids]).bind fun r3=>
   some [.int .i64 ((V.nth r3 0).toInt),.int .i64 ((V.nth (r3.drop 1) 0).toInt),.list aa ((V.nth ((r3.drop 1).drop 1) 0).toList)]
  else
   bif ((kids.length:Int):Int) != 1 then
   some [.int .i64 0,.int .i64 0,.list aa ([]:List V)]
   else
   (kids[0]?).bind fun x4=>
   bif (op:Int)==8 then
    bif (((x4.cell 0).toInt):Int)==8 then
    bif ((((x4.cell 2).toList).length:Int):Int)==1 then
     (((x4.cell 2).toList)[0]?).bind fun x5=>
     some [.int .i64 ((x5.cell 0).toInt),.int .i64 ((x5.cell 1).toInt),.list aa ((x5.cell 2).toList)]
    else
     some [.int .i64 8,.int .i64 0,.list aa ([.agg [.int .i64 ((x4.cell 0).toInt),.int .i64 ((x4.cell 1).toInt),.list aa ((x4.cell 2).toList)]]:List V)]
    else
    some [.int .i64 8,.int .i64 0,.list aa ([.agg [.int .i64 ((x4.cell 0).toInt),.int .i64 ((x4.cell 1).toInt),.list aa ((x4.cell 2).toList)]]:List V)]
   else
    bif (op:Int)==7 then
    bif (((x4.cell 0).toInt):Int)==1 then
     (C tw []).bind fun r6=>
     some [.int .i64 ((V.nth r6 0).toInt),.int .i64 ((V.nth (r6.drop 1) 0).toInt),.list aa ((V.nth (r6.drop 2) 0).toList)]
    else
     bif (((x4.cell 0).toInt):Int)==2 then
     (C tw []).bind fun r7=>
     some [.int .i64 ((V.nth r7 0).toInt),.int .i64 ((V.nth (r7.drop 1) 0).toInt),.list aa ((V.nth (r7.drop 2) 0).toList)]
     else
     bif (((x4.cell 0).toInt):Int)==7 then
      some [.int .i64 ((x4.cell 0).toInt),.int .i64 ((x4.cell 1).toInt),.list aa ((x4.cell 2).toList)]
     else
      (C lU [.int .i64 ((x4.cell 0).toInt),.int .i64 ((x4.cell 1).toInt),.list aa ((x4.cell 2).toList)]).bind fun r8=>
      bif (V.nth r8 0).toBool then
      some [.int .i64 ((x4.cell 0).toInt),.int .i64 ((x4.cell 1).toInt),.list aa ((x4.cell 2).toList)]
      else
      some [.int .i64 7,.int .i64 0,.list aa ([.agg [.int .i64 ((x4.cell 0).toInt),.int .i64 ((x4.cell 1).toInt),.list aa ((x4.cell 2).toList)]]:List V)]
    else
    some [.int .i64 0,.int .i64 0,.list aa ([]:List V)]
theorem RT {op:Int} {kids:List V} {r:Option (List V)} (h:JV CC op kids=r):CC jQ [.int .i64 op,.list aa kids]=r:=
 ba (key:=69) (L:=cb) (bs:=[]) (by kernel_rfl) aw (aX (by kernel_rfl) h)
noncomputable abbrev RU:Code:=cK Try.prog (az.aZ 59)
noncomputable def Ay (C:ag) (t20:List V) (t21 eG ec:Int) (dv:List V) (Az AA:Int) (bO:List V) (t22:Int) (w7:List V) {β:Type} (kn:(Int × (List V))→Option β) (kr:(Int × Bool × (List V))→Option β):Option β:=
 bif decide ((t22:Int)<t21) then
  (idx t20 t22).bind fun x1=>
  (C tv [.int .i64 ((x1.cell 0).toInt),.int .i64 ((x1.cell 1).toInt),.list aa ((x1.cell 2).toList)]).bind fun r2=>
  bif (decide (0≤t22))&&(decide (t22<(w7.length:Int))) then
  (w7[(t22:Int).toNat]?).bind fun x3=>
  kn (IntKind.wrap .i64 (t22+1),w7.set ((t22:Int).toNat) (.agg [.int .i64 ((V.nth r2 0).toInt),.int .i64 ((V.nth (r2.drop 1) 0).toInt),.list aa ((V.nth ((r2.drop 1).drop 1) 0).toList)]))
  else none
 else
  kr (t22,decide ((t22:Int)<t21),w7)
noncomputable def EH (C:ag) (t20:List V) (t21 eG ec:Int) (dv:List V) (Az AA:Int) (bO:List V):(Int × (List V))→Option ((Int × (List V)) ⊕ (Int × Bool × (List V))):=un fun t22 w7=>Ay C t20 t21 eG ec dv Az AA bO t22 w7 (fun y=>some (.inl y)) (fun r=>some (.inr r))
noncomputable def RV (C:ag):cz:=fun β n ds k=>
 bif Nat.beq n 81 then cl H0 [false,false,true,false,false,false,false,false,true,false] [[1,2,0,0,4,5,6,7,8,0,10]] (@Ay C) ds k else
 none
abbrev adR (C:ag) (b:cw):Prop:=cx Try.prog az C (RV C) 59 (cN Try.prog (az.aZ 59)) (az.sin 59).a9.length b
theorem adS (C:ag):adR C (.loop (ax [1,1,1,0,1,0,0] RU)):=
 cy H0 [false,false,true,false,false,false,false,false,true,false] [[1,2,0,0,4,5,6,7,8,0,10]] (@Ay C) (by kernel_rfl) (bh (bs:=[]) (by kernel_rfl) aw) (fun ds=>by kernel_rfl) (fun i x=>by kernel_rfl) (fun i x β k=>by kernel_rfl) (fun β ds k=>by kernel_rfl)
noncomputable def RW (C:ag) (ah ar:Int) (ae:List V):Option (List V):=
 bif ((ae.length:Int):Int)==0 then
  some [.int .i64 ah,.int .i64 ar,.list aa ([]:List V)]
 else
  bif (decide (0≤(ae.length:Int)))&&((decide ((ae.length:Int)≤(ae.length:Int)))&&(Nat.ble ((((ae.length:Int):Int).toNat)*40) cC)) then
  (Loop (EH C ae (ae.length:Int) ah ar ae 0 0 ([]:List V)) (0,List.replicate (((ae.length:Int):Int).toNat) (V.agg [.int .i64 0,.int .i64 0,.list aa ([]:List V)]))).bind (un fun (l7:Int)=>un fun (o5:Bool) (adT:List V)=>
   (C jQ [.int .i64 ah,.list aa adT]).bind fun r7=>
   some [.int .i64 ((V.nth r7 0).toInt),.int .i64 ((V.nth (r7.drop 1) 0).toInt),.list aa ((V.nth ((r7.drop 1).drop 1) 0).toList)])
  else none
theorem adU {ah ar:Int} {ae:List V} {r:Option (List V)} (h:RW CC ah ar ae=r):CC tv [.int .i64 ah,.int .i64 ar,.list aa ae]=r:=
 ba (key:=59) (L:=RV CC) (bs:=[.loop (ax [1,1,1,0,1,0,0] RU)]) (by kernel_rfl) (bH (adS CC) aw) (aX (by kernel_rfl) h)
noncomputable def RX (C:ag) (ah ar:Int) (ae:List V):Option (List V):=
 (C za [.int .i64 ah,.int .i64 ar,.list aa ae]).bind fun r1=>
 bif !((V.nth r1 0).toBool) then
  some [.int .i64 0,.int .i64 0,.list aa ([]:List V)]
 else
  (C tv [.int .i64 ah,.int .i64 ar,.list aa ae]).bind fun r2=>
  some [.int .i64 ((V.nth r2 0).toInt),.int .i64 ((V.nth (r2.drop 1) 0).toInt),.list aa ((V.nth ((r2.drop 1).drop 1) 0).toList)]
theorem adV {ah ar:Int} {ae:List V} {r:Option (List V)} (h:RX CC ah ar ae=r):CC y7 [.int .i64 ah,.int .i64 ar,.list aa ae]=r:=
 ba (key:=41) (L:=cb) (bs:=[]) (by kernel_rfl) aw (aX (by kernel_rfl) h)
end Go.AM
set_option maxRecDepth 100000
namespace Go.AM
open Go.Proofs Ex
theorem ui:CC oZ []=some (gI ed):=aaL rfl
theorem EI:CC tw []=some (gI iX):=aaN rfl
theorem AB:CC rD []=some (gI iY):=by
 refine aaO ?_
 unfold PU
 refine bs ui ?_
 simp[gI,ed,iY,Ex.op,Ex.cp,Ex.kids,eu]
theorem RY (o:Int) (l:List Ex):(l.filter fun k=> !(decide (k.op=o)))=l.filter fun k=>decide (k.op≠o):=by
 congr 1;funext k;simp
theorem RZ {ks:List Ex} (hlen:ks.length≤1000000):CC rB [.list aa (ks.map enc)]=some [.bool (ks.any fun k=>decide (k.op=1))]:=abL hlen
theorem adW {ks:List Ex} (hn:ks.length≤1000000): ∃b,CC DK [.list aa (ks.map enc)]=some [.bool b,.list aa ((ks.filter (fun k=>decide (k.op≠1))).map enc)]:=by
 rw[←RY];exact abN hn
theorem adX {ks:List Ex} (hn:ks.length≤1000000): ∃b,CC DI [.list aa (ks.map enc)]=some [.bool b,.list aa ((ks.filter (fun k=>decide (k.op≠2))).map enc)]:=by
 rw[←RY];exact abR hn
theorem R0 {o:Int} {ks:List Ex} (h: ∀k∈ks,k.Ok): ∀k∈bE o ks,k.Ok:=fun x hx=>by
 obtain ⟨k,h1,U|U⟩:=mW.1 hx
 ·have:=h k h1
  obtain ⟨o2,l2,lk⟩:=k
  exact this.lZ x U.2
 ·rw[U.2];exact h k h1
theorem adY {n:Int} {ks:List Ex} (hk: ∀k∈ks,Gd n k) (hs:aL ks≤1000000):CC Dw [.list aa (ks.map enc)]=some (gI (dx 5 0 ks)):=by
 have hl:=o8 ks
 have a1:=wm 5 ks
 have a2:=o8 (bE 5 ks)
 refine adP ?_
 unfold RR
 rw[tL,Jn hk]
 refine bs (RZ (by omega)) ?_
 cases hu:ks.any fun k=>decide (k.op=1) with
 | true=>
  refine bT rfl ?_
  refine bs ui ?_
  rfl
 | false=>
  refine bF rfl ?_
  refine bs (I9 (by omega) (by omega)) ?_
  obtain ⟨b,e⟩:=adX (ks:=bE 5 ks) (by omega)
  refine bs e ?_
  cases b
  ·exact bF rfl (bs EI (bs (o7 (z:=iX)) rfl))
  ·exact bT rfl (bs EI (bs (o7 (z:=iX)) rfl))
section
variable {n:Int} {ks:List Ex} (hk: ∀k∈ks,Gd n k) (au: ∀k∈ks,k.Ok) (hs:aL ks≤1000000)
include hk au hs
theorem adZ:CC Du [.list aa (ks.map enc)]=some (gI (dx 4 0 ks)):=by
 have hl:=o8 ks
 have a1:=wm 4 ks
 have a2:=o8 (bE 4 ks)
 refine adO ?_
 unfold RQ
 rw[wo,Qh hk]
 refine bs (abT (by omega)) ?_
 cases hu:ks.any univ with
 | true=>
  refine bT rfl ?_
  refine bs AB ?_
  rfl
 | false=>
  refine bF rfl ?_
  refine bs (I9 (by omega) (by omega)) ?_
  obtain ⟨b,e⟩:=adW (ks:=bE 4 ks) (by omega)
  refine bs e ?_
  obtain ⟨b2,e2⟩:=RP (l:=(bE 4 ks).filter fun k=>decide (k.op≠1)) (by have:=si (fun k:Ex=>decide (k.op≠1)) (bE 4 ks);omega) fun k h=>R0 au k (nr.1 h).1
  cases b
  ·refine bF rfl ?_
   refine bs e2 ?_
   cases b2
   ·exact bF rfl (bs ui (bs (o7 (z:=ed)) rfl))
   ·exact bT rfl (bs ui (bs (o7 (z:=ed)) rfl))
  ·refine bT rfl ?_
   refine bs e2 ?_
   cases b2
   ·exact bF rfl (bs ui (bs (o7 (z:=ed)) rfl))
   ·exact bT rfl (bs ui (bs (o7 (z:=ed)) rfl))
theorem ad0:CC Dx [.list aa (ks.map enc)]=some (gI (dx 6 0 ks)):=by
 have hl:=o8 ks
 have a1:=wm 6 ks
 have a2:=o8 (bE 6 ks)
 refine adQ ?_
 unfold RS
 rw[zO,abf hk]
 refine bs (RZ (by omega)) ?_
 cases hu:ks.any fun k=>decide (k.op=1) with
 | true=>
  refine bT rfl ?_
  refine bs ui ?_
  rfl
 | false=>
  refine bF rfl ?_
  refine bs (I9 (by omega) (by omega)) ?_
  obtain ⟨b,e⟩:=abV (ks:=bE 6 ks) (by omega)
  refine bs e ?_
  obtain ⟨b2,e2⟩:=RP (l:=(bE 6 ks).filter fun k=> !(univ k)) (by have:=si (fun k:Ex=> !(univ k)) (bE 6 ks);omega) fun k h=>R0 au k (nr.1 h).1
  cases b
  ·refine bF rfl ?_
   refine bs e2 ?_
   cases b2
   ·exact bF rfl (bs AB (bs (o7 (z:=iY)) rfl))
   ·exact bT rfl (bs AB (bs (o7 (z:=iY)) rfl))
  ·refine bT rfl ?_
   refine bs e2 ?_
   cases b2
   ·exact bF rfl (bs AB (bs (o7 (z:=iY)) rfl))
   ·exact bT rfl (bs AB (bs (o7 (z:=iY)) rfl))
theorem qy {o:Int} (ho:o=4∨o=5∨o=6):CC jQ [.int .i64 o,.list aa (ks.map enc)]=some (gI (dx o 0 ks)):=by
 refine RT ?_
 unfold JV
 rcases ho with rfl|rfl|rfl
 ·exact bT rfl (bs (adZ hk au hs) rfl)
 ·exact bF rfl (bT rfl (bs (adY hk hs) rfl))
 ·exact bF rfl (bF rfl (bT rfl (bs (ad0 hk au hs) rfl)))
end
theorem JW (k:Ex):[V.agg [.int .i64 k.op,.int .i64 k.cp,.list aa (k.kids.map enc)]]=[k].map enc:=by rw[←eu];rfl
theorem EJ {n o:Int} {k:Ex} (hk:Gd n k) (ho:o=7∨o=8):CC jQ [.int .i64 o,.list aa ([k].map enc)]=some (gI (dx o 0 [k])):=by
 refine RT ?_
 unfold JV
 rcases ho with rfl|rfl
 ·refine bF rfl (bF rfl (bF rfl (bF rfl (bs (a:=k.enc) rfl (bF rfl (bT rfl ?_))))))
  rw[zP,br,bt,bu,eT,eT,eT]
  by_cases h1:k.op=1
  ·rw[aj h1,aj (.inl h1)];exact bs EI rfl
  ·rw[ai h1]
   by_cases U:k.op=2
   ·rw[aj U,aj (.inr U)];exact bs EI rfl
   ·rw[ai U,ai (show¬(k.op=1∨k.op=2) by omega)]
    by_cases h7:k.op=7
    ·rw[aj h7,aj (.inl h7)];rfl
    ·rw[ai h7]
     refine bs (zU k) ?_
     cases hu:univ k with
     | true=>rw[aj (.inr rfl)];exact bT rfl rfl
     | false=>
      rw[ai (by rintro (h|h);exact h7 h;cases h)]
      refine bF rfl ?_
      rw[JW];rfl
 ·refine bF rfl (bF rfl (bF rfl (bF rfl (bs (a:=k.enc) rfl (bT rfl ?_)))))
  rw[zQ,br,bt,bu,eT]
  by_cases h8:k.op=8
  ·rw[aj h8,aj h8]
   have hs:=eH hk.shape
   obtain ⟨o2,l2,lk⟩:=k
   simp only[Ex.op,Ex.kids,Ex.cp] at*
   match lk,(show (lk.length:Int)=1 by omega) with
   | [x],_=>
    refine bT (by simp) (bs (a:=x.enc) rfl ?_)
    rw[br,bt,bu];rfl
  ·rw[ai h8,ai h8,JW];rfl
theorem R3 {α:Type} (a:List α) (x y:α) (b:List α) {i:Nat} (h:i=a.length):(a++x::b).set i y=(a++[y])++b:=by
 subst h;simp[List.set_append_right]
theorem ad1 {ks:List Ex} {a b c d:Int} {l1 l2:List V} (hn:ks.length≤1000000) (ih: ∀k∈ks,CC tv (bK k [])=some (gI (aM k))):
  ∀(aH pre:List Ex),ks=pre++aH→∃t,Loop (EH CC (ks.map enc) ((ks.map enc).length:Int) a b l1 c d l2) (((pre.length:Nat):Int),(pre.map aM).map enc++List.replicate aH.length (V.agg [.int .i64 0,.int .i64 0,.list aa ([]:List V)]))=some (((ks.map enc).length:Int),t,(ks.map aM).map enc):=by
 intro aH
 induction aH with
 | nil=>
  intro pre e
  rw[dA] at e
  subst e
  refine ⟨false,bd ?_⟩
  simp only[EH,Ay,un,bn]
  rw[aB,ai (by omega),cS (by omega)]
  simp
 | cons k aH eV=>
  intro pre e
  have bL:pre.length<ks.length:=by rw[e];simp
  have bZ:idx (ks.map enc) (pre.length:Int)=some k.enc:=by rw[e];exact iW _ _ _
  obtain ⟨t,ht⟩:=eV (pre++[k]) (by simp[e])
  refine ⟨t,(bU ?_).trans ht⟩
  simp only[EH,Ay,un,bn]
  rw[aB,aj (by omega),bZ]
  simp only[Option.bind_some,br,bt,bu]
  refine bs (ih k (by rw[e];simp)) ?_
  refine bT (by simp only[aJ,dN,ca,bn,sf,List.length_cons];omega) ?_
  refine bs (a:=V.agg [.int .i64 0,.int .i64 0,.list aa ([]:List V)]) ?_ ?_
  ·rw[Int.toNat_natCast,gN (by simp)]
   simp
  ·rw[wrap64 (by omega) (by omega),Int.toNat_natCast,List.length_cons,List.replicate_succ,R3 _ _ _ _ (by simp)]
   show some (Sum.inl _)=some (Sum.inl _)
   refine congrArg (fun x=>some (Sum.inl x)) (Prod.ext ?_ ?_)
   ·simp
   ·simp only[fQ,cH,gm]
    rw[eu (aM k)];rfl
theorem R4 {n:Int} (hn:n≤6): ∀e:Ex,e.wf n=true→e.size≤1000000→CC tv (bK e [])=some (gI (aM e)):=
 ind fun o l ks ih hw hs=>by
  obtain ⟨h1,U⟩:=hG hw
  have hl:=o8 ks
  simp only[size] at hs
  have h3:=eH h1
  refine adU ?_
  unfold RW
  simp only[Ex.op,Ex.kids,Ex.cp,bn,eT]
  rw[l9]
  by_cases h0:ks=[]
  ·subst h0
   rw[aj (by simp),ll (by simp only[List.length_nil] at h3;omega)]
   rfl
  ·have hp:0<ks.length:=List.length_pos_iff.2 h0
   rw[ai (by omega)]
   refine bT (by simp only[aJ,dN,dD,qo,Int.toNat_natCast];omega) ?_
   obtain ⟨t,ht⟩:=ad1 (a:=o) (b:=l) (c:=0) (d:=0) (l1:=ks.map enc) (l2:=[]) (ks:=ks) (by omega) (fun k hk=>ih k hk (U k hk) (by have:=zN hk;omega)) ks [] rfl
   rw[bn] at ht
   refine bs ht ?_
   have hg: ∀k∈ks.map aM,Gd n k:=fun x hx=>by
    obtain ⟨k,hk,rfl⟩:=gk.1 hx
    exact ma k (U k hk)
   have hz:aL (ks.map aM)≤aL ks:=by
    clear ht h3 h1 hw ih hp h0 hl hs hg
    induction ks with
    | nil=>simp[aL]
    | cons k ks ih=>have a:=zR k (U k (by simp));have b:=ih fun k hk=>U k (by simp[hk]);simp only[cH,aL];omega
   have au: ∀k∈ks.map aM,k.Ok:=fun k hk=>rL hn k (hg k hk).2 (by have:=zN hk;omega)
   rcases (show (o=4∨o=5∨o=6)∨(o=7∨o=8) by omega) with ho|ho
   ·obtain rfl:l=0:=by omega
    exact bs (qy hg au (by omega) ho) rfl
   ·obtain rfl:l=0:=by omega
    have h5:ks.length=1:=by omega
    match ks,h5 with
    | [k],_=>exact bs (EJ (hg (aM k) (by simp)) ho) rfl
theorem R5 (e:Ex) (h:e.Ok):CC y7 (bK e [])=some (gI (if e.val 6=0 then aM e else bc)):=by
 refine adV ?_
 unfold RX
 refine bs (Qd e h) ?_
 by_cases hv:e.val 6=0
 ·have:=oa hv
  rw[aj hv]
  refine bF (by simp[hv]) ?_
  exact bs (R4 (by omega) e this.2.2 (by omega)) rfl
 ·rw[ai hv]
  refine bT (by simp[hv]) ?_
  rfl
end Go.AM
set_option maxRecDepth 100000
namespace Go.AM
open Go.Proofs
def tab {α:Type} (n:Nat) (g:Nat→α):List α:=(List.range n).map g
section
variable {α β:Type} {n i:Nat} {g h:Nat→α}
@[simp] theorem ahK:(tab n g).length=n:=by simp[tab]
end
section
variable {γ:Type} {n i:Nat} {g:Nat→V}
theorem rV {es:List V} {v:V} (hi:es[i]? =some v) {K:V→Option γ}:(bif (decide (0≤(i:Int)))&&(decide ((i:Int)<(es.length:Int))) then (es[((i:Int)).toNat]?).bind K else none)=K v:=by
 have hl:i<es.length:=by
  rcases ov i es.length with h|h
  ·exact h
  ·rw[xo h] at hi;cases hi
 rw[Int.toNat_natCast,hi,uz.2 ⟨eg (by omega),eg (by omega)⟩]
 rfl
end
theorem cap {a b m:Nat} (h:a+b≤10000000) (hm:m≤1000):Nat.ble ((a+b)*m) cC=true:=by
 rw[dD,qo]
 have:=Nat.mul_le_mul h hm
 omega
theorem ad2 {n m:Nat} (h:n≤10000000) (hm:m≤1000):((decide (0≤(n:Int)))&&((decide ((n:Int)≤(n:Int)))&&(Nat.ble (((n:Int).toNat)*m) cC)))=true:=by
 have U:=Nat.mul_le_mul h hm
 rw[Int.toNat_natCast]
 refine uz.2 ⟨eg (by omega),uz.2 ⟨eg (by omega),?_⟩⟩
 rw[dD,qo]
 omega
theorem oo {i:Nat} (h:i≤1000000000):IntKind.wrap .i64 ((i:Int)+1)=((i+1:Nat):Int):=by rw[wrap64 (by omega) (by omega)];omega
theorem uj {i n:Nat} (h:i<n):decide ((i:Int)<(n:Int))=true:=eg (by omega)
end Go.AM
set_option maxRecDepth 100000
namespace Go.AM
open Go.Proofs Ex
def oneOf (o:Int):List Ex→Ex
 | [k]=>k
 | l=> .node o 0 l
mutual
def bY (c:Int):Ex→Ex
 | .node o l ks=>
  if o=3 then (if l=c then iX else ed)
  else if o=4∨o=6∨o=8 then .node o 0 (w8 c ks)
  else if o=7 then .node 5 0 [(w8 c ks).getD 0 bc,.node o l ks]
  else if o=5 then oneOf 4 (iH c ks)
  else ed
def w8 (c:Int):List Ex→List Ex
 | []=>[]
 | k::ks=>bY c k::w8 c ks
def iH (c:Int):List Ex→List Ex
 | []=>[]
 | k::ks=>oneOf 5 (bY c k::ks)::(if k.cZ=true then iH c ks else [])
end
theorem R6 {c:Int}: ∀ks,w8 c ks=ks.map (bY c)
 | []=>by simp only[w8,gm]
 | k::ks=>by simp only[w8,cH,R6 ks]
theorem w9 {c o l:Int} {ks:List Ex}:bY c (.node o l ks)=if o=3 then (if l=c then iX else ed) else if o=4∨o=6∨o=8 then .node o 0 (ks.map (bY c)) else if o=7 then .node 5 0 [(ks.map (bY c)).getD 0 bc,.node o l ks] else if o=5 then oneOf 4 (iH c ks) else ed:=by
 rw[bY,R6]
theorem EK {c:Int} {k:Ex} {ks:List Ex}:iH c (k::ks)=oneOf 5 (bY c k::ks)::(if k.cZ=true then iH c ks else []):=by rw[iH]
theorem ad3 {o:Int} {k:Ex} {l:List Ex}:oneOf o (k::l)=if l=[] then k else .node o 0 (k::l):=by
 cases l with
 | nil=>rfl
 | cons x l=>rw[ai (by simp)];rfl
theorem R7 {n:Int}:ed.wf n=true:=tK (by simp[dw]) (by simp)
theorem ad4 {n:Int}:iX.wf n=true:=tK (by simp[dw]) (by simp)
theorem ad5 {n o l len:Int} (h:dw o l len n=true) (ho:o=4∨o=6∨o=8):dw o 0 len n=true:=by
 rcases eH h with h|⟨rfl,h⟩
 ·omega
 ·assumption
theorem R8 {n:Int} {o:Int} (ho:o=4∨o=5) {len:Int} (h:2≤len):dw o 0 len n=true:=by
 unfold dw
 rcases ho with rfl|rfl<;>simp[h]
theorem R9 {n:Int} {o:Int} (ho:o=4∨o=5) {l:List Ex} (hl:l≠[]) (h: ∀k∈l,k.wf n=true):(oneOf o l).wf n=true:=by
 match l,hl with
 | [k],_=>exact h k (by simp)
 | k::k2::l,_=>exact tK (R8 ho (by simp only[List.length_cons];omega)) h
theorem Sa {c:Int} {ks:List Ex} (h:ks≠[]):iH c ks≠[]:=by
 cases ks with
 | nil=>exact absurd rfl h
 | cons k ks=>rw[EK];simp
theorem EL {n c:Int}: ∀{ks:List Ex},(∀k∈ks,k.wf n=true)→(∀k∈ks,(bY c k).wf n=true)→∀x∈iH c ks,x.wf n=true
 | [],_,_,x,hx=>by rw[iH] at hx;cases hx
 | k::ks,h1,U,x,hx=>by
  rw[EK] at hx
  rcases cY.1 hx with rfl|hx
  ·refine R9 (.inr rfl) (by simp) fun y hy=> ?_
   rcases cY.1 hy with rfl|hy
   ·exact U k (by simp)
   ·exact h1 y (by simp[hy])
  ·split at hx
   ·exact EL (fun y hy=>h1 y (by simp[hy])) (fun y hy=>U y (by simp[hy])) x hx
   ·cases hx
theorem uk {n c:Int}: ∀e:Ex,e.wf n=true→(bY c e).wf n=true:=ind fun o l ks ih hw=>by
 obtain ⟨h1,U⟩:=hG hw
 have hk: ∀k∈ks,(bY c k).wf n=true:=fun k hk=>ih k hk (U k hk)
 rw[w9]
 split
 ·split
  ·exact ad4
  ·exact R7
 split
 ·next _ ho=>
  refine tK (by rw[bn];exact ad5 h1 ho) fun x hx=> ?_
  obtain ⟨k,lR,rfl⟩:=gk.1 hx
  exact hk k lR
 split
 ·next _ _ ho=>
  subst ho
  have hl:ks.length=1:=by rcases eH h1 with h|⟨_,h|h|h|h|h|h|h⟩<;>omega
  obtain ⟨k,rfl⟩:=xy.1 hl
  refine tK (R8 (.inr rfl) (by simp)) fun x hx=> ?_
  rcases cY.1 hx with rfl|hx
  ·exact hk k (by simp)
  ·rw[dX.1 hx];exact hw
 split
 ·next _ _ _ ho=>
  subst ho
  have hl:2≤ks.length:=by rcases eH h1 with h|⟨_,h|h|h|h|h|h|h⟩<;>omega
  exact R9 (.inl rfl) (Sa (by intro h;rw[h] at hl;simp at hl)) (EL U hk)
 ·exact R7
theorem Sb {o:Int} {l:List Ex}:(oneOf o l).size≤1+aL l:=by
 match l with
 | []=>simp[oneOf,size,aL]
 | [k]=>simp[oneOf,aL]
 | k::k2::l=>simp[oneOf,size]
theorem JX {f:Ex→Ex}: ∀{ks:List Ex},(∀k∈ks,(f k).size≤k.size*k.size)→aL (ks.map f)≤aL ks*aL ks
 | [],_=>by simp[aL]
 | k::ks,h=>by
  have ih:=JX (f:=f) (ks:=ks) fun x hx=>h x (by simp[hx])
  have hk:=h k (by simp)
  simp only[cH,aL,c6,Nat.mul_add]
  omega
theorem JY {c:Int}: ∀{ks:List Ex},(∀k∈ks,(bY c k).size≤k.size*k.size)→1+aL (iH c ks)≤(1+aL ks)*(1+aL ks)
 | [],_=>by rw[iH];simp[aL]
 | k::ks,h=>by
  have ih:=JY (c:=c) (ks:=ks) fun x hx=>h x (by simp[hx])
  have hk:=h k (by simp)
  have h1:(oneOf 5 (bY c k::ks)).size≤1+((bY c k).size+aL ks):=Sb
  have hp:=k.size_pos
  have U:aL (if k.cZ=true then iH c ks else [])≤aL (iH c ks):=by
   split
   ·exact b7 _
   ·simp[aL]
  have h3:1*aL ks≤k.size*aL ks:=dj _ hp
  have h4:aL ks*k.size=k.size*aL ks:=np _ _
  rw[EK]
  simp only[aL,c6,Nat.mul_add] at*
  omega
theorem Sd {c:Int}: ∀e:Ex,(∀n,e.wf n=true→(bY c e).size≤e.size*e.size):=ind fun o l ks ih n hw=>by
 obtain ⟨h1,U⟩:=hG hw
 have hk: ∀k∈ks,(bY c k).size≤k.size*k.size:=fun k hk=>ih k hk n (U k hk)
 have h3:1*1≤(Ex.node o l ks).size*(Ex.node o l ks).size:=Nat.mul_le_mul (size_pos _) (size_pos _)
 rw[w9]
 split
 ·split
  ·exact h3
  ·exact h3
 split
 ·have:=JX hk
  simp only[size,c6,Nat.mul_add] at*
  omega
 split
 ·next _ _ ho=>
  subst ho
  have hl:ks.length=1:=by rcases eH h1 with h|⟨_,h|h|h|h|h|h|h⟩<;>omega
  obtain ⟨k,rfl⟩:=xy.1 hl
  have:=hk k (by simp)
  have hp:=k.size_pos
  simp only[cH,gm,xw,size,aL,c6,Nat.mul_add,Nat.add_zero] at*
  omega
 split
 ·have h4:=JY hk
  have h5:(oneOf 4 (iH c ks)).size≤1+aL (iH c ks):=Sb
  show _≤(1+aL ks)*(1+aL ks)
  omega
 ·exact h3
section
variable {n c:Int}
theorem ad6 {o l:Int} {ks:List Ex} (ho:o=4∨o=6∨o=8):aM (bY c (.node o l ks))=dx o 0 (ks.map fun k=>aM (bY c k)):=by
 rw[w9,ai (by omega),aj ho,l9,List.map_map]
 rfl
theorem ad7 {l:Int} {k:Ex}:aM (bY c (.node 7 l [k]))=dx 5 0 [aM (bY c k),aM (.node 7 l [k])]:=by
 rw[w9,ai (by omega),ai (by omega),aj rfl,l9]
 rfl
def EM (c:Int) (k:Ex) (ks:List Ex):Ex:=if (aM (bY c k)).op=1 then aM (bY c k) else dx 5 0 (aM (bY c k)::ks.map aM)
theorem ad8 {k:Ex} {ks:List Ex} (hk:k.wf n=true) (aW: ∀x∈ks,x.wf n=true):EM c k ks=aM (oneOf 5 (bY c k::ks)):=by
 have hg:=ma (n:=n) _ (uk (c:=c) k hk)
 unfold EM
 rw[ad3]
 by_cases hn:ks=[]
 ·subst hn
  rw[aj rfl,gm,abr hg]
  split<;>rfl
 ·rw[ai hn,l9,cH]
  by_cases h1:(aM (bY c k)).op=1
  ·rw[aj h1,tL,aj,empty_eq hg h1]
   have sZ: ∀x∈aM (bY c k)::ks.map aM,Gd n x:=fun x hx=>by
    rcases cY.1 hx with rfl|hx
    ·exact hg
    ·obtain ⟨y,hy,rfl⟩:=gk.1 hx
     exact ma y (aW y hy)
   rw[Jn sZ]
   simp[h1]
  ·rw[ai h1]
def rW (c:Int):List Ex→List Ex
 | []=>[]
 | k::ks=>EM c k ks::(if k.cZ=true then rW c ks else [])
theorem parts_eq: ∀{ks:List Ex},(∀x∈ks,x.wf n=true)→rW c ks=(iH c ks).map aM
 | [],_=>by rw[iH];rfl
 | k::ks,h=>by
  have ih:=parts_eq (ks:=ks) fun x hx=>h x (by simp[hx])
  rw[EK,cH,←ad8 (h k (by simp)) (fun x hx=>h x (by simp[hx]))]
  unfold rW
  refine congrArg _ ?_
  split
  ·exact ih
  ·rfl
theorem ad9 {l:Int} {ks:List Ex} (bx:ks≠[]) (hk: ∀x∈ks,x.wf n=true):aM (bY c (.node 5 l ks))=dx 4 0 (rW c ks):=by
 rw[w9,ai (by omega),ai (by omega),ai (by omega),aj rfl,parts_eq hk]
 have hw:=EL (c:=c) hk fun k lR=>uk k (hk k lR)
 have hn:=Sa (c:=c) bx
 generalize iH c ks=L at*
 match L,hn with
 | [x],_=>exact (abq (ma x (hw x (by simp)))).symm
 | x::y::L,_=>
  show aM (.node 4 0 _)=_
  rw[l9]
end
end Go.AM
set_option maxRecDepth 100000
namespace Go.AM
open Go.Proofs
noncomputable def Se (C:ag) (dL:Int) (dM:Bool) (ah ar:Int) (ae:List V):Option (List V):=
 bif dM then
  some [.int .i64 ah,.int .i64 ar,.list aa ae]
 else
  (C tv [.int .i64 ah,.int .i64 ar,.list aa ae]).bind fun r1=>
  some [.int .i64 ((V.nth r1 0).toInt),.int .i64 ((V.nth (r1.drop 1) 0).toInt),.list aa ((V.nth ((r1.drop 1).drop 1) 0).toList)]
theorem aea {dL:Int} {dM:Bool} {ah ar:Int} {ae:List V} {r:Option (List V)} (h:Se CC dL dM ah ar ae=r):CC zb [.int .i64 dL,.bool dM,.int .i64 ah,.int .i64 ar,.list aa ae]=r:=
 ba (key:=83) (L:=cb) (bs:=[]) (by kernel_rfl) aw (aX (by kernel_rfl) h)
end Go.AM
