/-
  Functions of the program, lifted to plain data.
-/
import Derived.Test.YtppefogdkedaiaaP4
set_option linter.unusedVariables false
set_option linter.unusedSimpArgs false
set_option maxRecDepth 100000
namespace Go.AM
open Go.Proofs
noncomputable abbrev E7:Code:=cL Try.prog (ax.aX 111)
noncomputable def xk (C:ag) (a b' i j:Int) (ak:List V) {β:Type} (kn:(Int × (List V))→Option β) (kr:(Int × Bool × (List V))→Option β):Option β:=
 bif decide ((j:Int)>a) then
  bif (decide (0≤j))&&(decide (j<(ak.length:Int))) then
  (ak[(j:Int).toNat]?).bind fun x1=>
  bif (decide (0≤(IntKind.wrap .i64 (j-1))))&&(decide ((IntKind.wrap .i64 (j-1))<(ak.length:Int))) then
   (ak[(IntKind.wrap .i64 (j-1):Int).toNat]?).bind fun x2=>
   (C a9 [.int .i64 ((x1.cell 0).toInt),.int .i64 ((x1.cell 1).toInt),.list aa ((x1.cell 2).toList),.int .i64 ((x2.cell 0).toInt),.int .i64 ((x2.cell 1).toInt),.list aa ((x2.cell 2).toList)]).bind fun r3=>
   bif decide ((((V.nth r3 0).toInt):Int)<0) then
   bif (decide (0≤(IntKind.wrap .i64 (j-1))))&&(decide ((IntKind.wrap .i64 (j-1))<(ak.length:Int))) then
    (ak[(IntKind.wrap .i64 (j-1):Int).toNat]?).bind fun x4=>
    bif (decide (0≤j))&&(decide (j<(ak.length:Int))) then
    (ak[(j:Int).toNat]?).bind fun x5=>
    bif (decide (0≤j))&&(decide (j<(ak.length:Int))) then
     (ak[(j:Int).toNat]?).bind fun x6=>
     bif (decide (0≤(IntKind.wrap .i64 (j-1))))&&(decide ((IntKind.wrap .i64 (j-1))<((ak.set ((j:Int).toNat) (.agg [.int .i64 ((x4.cell 0).toInt),.int .i64 ((x4.cell 1).toInt),.list aa ((x4.cell 2).toList)])).length:Int))) then
     ((ak.set ((j:Int).toNat) (.agg [.int .i64 ((x4.cell 0).toInt),.int .i64 ((x4.cell 1).toInt),.list aa ((x4.cell 2).toList)]))[(IntKind.wrap .i64 (j-1):Int).toNat]?).bind fun x7=>
     kn (IntKind.wrap .i64 (j-1),(ak.set ((j:Int).toNat) (.agg [.int .i64 ((x4.cell 0).toInt),.int .i64 ((x4.cell 1).toInt),.list aa ((x4.cell 2).toList)])).set ((IntKind.wrap .i64 (j-1):Int).toNat) (.agg [.int .i64 ((x5.cell 0).toInt),.int .i64 ((x5.cell 1).toInt),.list aa ((x5.cell 2).toList)]))
     else none
    else none
    else none
   else none
   else
   kr (j,decide ((((V.nth r3 0).toInt):Int)<0),ak)
  else none
  else none
 else
  kr (j,false,ak)
noncomputable def xl (C:ag) (a b' i:Int):(Int × (List V))→Option ((Int × (List V)) ⊕ (Int × Bool × (List V))):=un fun j ak=>xk C a b' i j ak (fun y=>some (.inl y)) (fun r=>some (.inr r))
noncomputable def AF (C:ag) (a b' i:Int) (ak:List V) {β:Type} (kn:(Int × (List V))→Option β) (kr:(Int × Bool × (List V))→Option β):Option β:=
 bif decide ((i:Int)<b') then
  (Loop (xl C a b' i) (i,ak)).bind (un fun (j_8:Int)=>un fun (sd:Bool) (ou:List V)=>
   kn (IntKind.wrap .i64 (i+1),ou))
 else
  kr (i,decide ((i:Int)<b'),ak)
noncomputable def E8 (C:ag) (a b':Int):(Int × (List V))→Option ((Int × (List V)) ⊕ (Int × Bool × (List V))):=un fun i ak=>AF C a b' i ak (fun y=>some (.inl y)) (fun r=>some (.inr r))
noncomputable def RD (C:ag):cB:=fun β n ds k=>
 bif Nat.beq n 65 then cj JB [false,false,false,true,true] [[1,2,3,0,0,0]] (@xk C) ds k else
 bif Nat.beq n 17 then cj JC [false,false,true,true] [[1,2,0,0,0]] (@AF C) ds k else
 none
abbrev RE (C:ag) (b:cx):Prop:=cy Try.prog ax C (RD C) 111 (cP Try.prog (ax.aX 111)) (ax.sin 111).a8.length b
theorem ac2 (C:ag):RE C (.loop (aw [1,0,0,1,0,0,1,0,0] E7)):=
 cr JB [false,false,false,true,true] [[1,2,3,0,0,0]] (@xk C) (by kernel_rfl) (bh (bs:=[]) (by kernel_rfl) av) (fun ds=>by kernel_rfl) (fun i x=>by kernel_rfl) (fun i x β k=>by kernel_rfl) (fun β ds k=>by kernel_rfl)
theorem ac3 (C:ag):RE C (.loop (aw [1,0,0] E7)):=
 cr JC [false,false,true,true] [[1,2,0,0,0]] (@AF C) (by kernel_rfl) (bh (bs:=[.loop (aw [1,0,0,1,0,0,1,0,0] E7)]) (by kernel_rfl) (bG (ac2 C) av)) (fun ds=>by kernel_rfl) (fun i x=>by kernel_rfl) (fun i x β k=>by kernel_rfl) (fun β ds k=>by kernel_rfl)
noncomputable def RF (C:ag) (a b':Int) (ak:List V):Option (List V):=
 (Loop (E8 C a b') (IntKind.wrap .i64 (a+1),ak)).bind (un fun (aiG:Int)=>un fun (J8:Bool) (KG:List V)=>
  some [.list aa KG])
theorem ac4 {a b':Int} {ak:List V} {r:Option (List V)} (h:RF CC a b' ak=r):CC zW [.int .i64 a,.int .i64 b',.list aa ak]=r:=
 aY (key:=111) (L:=RD CC) (bs:=[.loop (aw [1,0,0] E7)]) (by kernel_rfl) (bG (ac3 CC) av) (aW (by kernel_rfl) h)
noncomputable abbrev xm:Code:=cL Try.prog (ax.aX 121)
noncomputable def uB (C:ag) (hi first root child:Int) (t40:Bool) (ak:List V) {β:Type} (kr:(Int)→Option β):Option β:=
 bif t40 then
  kr (IntKind.wrap .i64 (child+1))
 else
  kr child
noncomputable def sk (C:ag) (hi first root:Int) (ak:List V) {β:Type} (kn:(Int × (List V))→Option β) (kr:((Int × Int × Bool × (List V)) ⊕ (Int × Int × Bool × (List V)))→Option β):Option β:=
 bif decide (((IntKind.wrap .i64 ((IntKind.wrap .i64 (root*2))+1)):Int)≥hi) then
  kr (.inl (root,IntKind.wrap .i64 ((IntKind.wrap .i64 (root*2))+1),decide (((IntKind.wrap .i64 ((IntKind.wrap .i64 (root*2))+1)):Int)≥hi),ak))
 else
  bif decide (((IntKind.wrap .i64 ((IntKind.wrap .i64 ((IntKind.wrap .i64 (root*2))+1))+1)):Int)<hi) then
  bif (decide (0≤(IntKind.wrap .i64 (first+(IntKind.wrap .i64 ((IntKind.wrap .i64 (root*2))+1))))))&&(decide ((IntKind.wrap .i64 (first+(IntKind.wrap .i64 ((IntKind.wrap .i64 (root*2))+1))))<(ak.length:Int))) then
   (ak[(IntKind.wrap .i64 (first+(IntKind.wrap .i64 ((IntKind.wrap .i64 (root*2))+1))):Int).toNat]?).bind fun x1=>
   bif (decide (0≤(IntKind.wrap .i64 ((IntKind.wrap .i64 (first+(IntKind.wrap .i64 ((IntKind.wrap .i64 (root*2))+1))))+1))))&&(decide ((IntKind.wrap .i64 ((IntKind.wrap .i64 (first+(IntKind.wrap .i64 ((IntKind.wrap .i64 (root*2))+1))))+1))<(ak.length:Int))) then
   (ak[(IntKind.wrap .i64 ((IntKind.wrap .i64 (first+(IntKind.wrap .i64 ((IntKind.wrap .i64 (root*2))+1))))+1):Int).toNat]?).bind fun x2=>
   (C a9 [.int .i64 ((x1.cell 0).toInt),.int .i64 ((x1.cell 1).toInt),.list aa ((x1.cell 2).toList),.int .i64 ((x2.cell 0).toInt),.int .i64 ((x2.cell 1).toInt),.list aa ((x2.cell 2).toList)]).bind fun r3=>
   uB C hi first root (IntKind.wrap .i64 ((IntKind.wrap .i64 (root*2))+1)) (decide ((((V.nth r3 0).toInt):Int)<0)) ak (fun (na:Int)=>
    bif (decide (0≤(IntKind.wrap .i64 (first+root))))&&(decide ((IntKind.wrap .i64 (first+root))<(ak.length:Int))) then
     (ak[(IntKind.wrap .i64 (first+root):Int).toNat]?).bind fun x5=>
     bif (decide (0≤(IntKind.wrap .i64 (first+na))))&&(decide ((IntKind.wrap .i64 (first+na))<(ak.length:Int))) then
     (ak[(IntKind.wrap .i64 (first+na):Int).toNat]?).bind fun x6=>
     (C a9 [.int .i64 ((x5.cell 0).toInt),.int .i64 ((x5.cell 1).toInt),.list aa ((x5.cell 2).toList),.int .i64 ((x6.cell 0).toInt),.int .i64 ((x6.cell 1).toInt),.list aa ((x6.cell 2).toList)]).bind fun r7=>
     bif !(decide ((((V.nth r7 0).toInt):Int)<0)) then
      kr (.inr (root,na,!(decide ((((V.nth r7 0).toInt):Int)<0)),ak))
     else
      bif (decide (0≤(IntKind.wrap .i64 (first+na))))&&(decide ((IntKind.wrap .i64 (first+na))<(ak.length:Int))) then
      (ak[(IntKind.wrap .i64 (first+na):Int).toNat]?).bind fun x8=>
      bif (decide (0≤(IntKind.wrap .i64 (first+root))))&&(decide ((IntKind.wrap .i64 (first+root))<(ak.length:Int))) then
       (ak[(IntKind.wrap .i64 (first+root):Int).toNat]?).bind fun x9=>
       bif (decide (0≤(IntKind.wrap .i64 (first+root))))&&(decide ((IntKind.wrap .i64 (first+root))<(ak.length:Int))) then
       (ak[(IntKind.wrap .i64 (first+root):Int).toNat]?).bind fun lu=>
       bif (decide (0≤(IntKind.wrap .i64 (first+na))))&&(decide ((IntKind.wrap .i64 (first+na))<((ak.set ((IntKind.wrap .i64 (first+root):Int).toNat) (.agg [.int .i64 ((x8.cell 0).toInt),.int .i64 ((x8.cell 1).toInt),.list aa ((x8.cell 2).toList)])).length:Int))) then
        ((ak.set ((IntKind.wrap .i64 (first+root):Int).toNat) (.agg [.int .i64 ((x8.cell 0).toInt),.int .i64 ((x8.cell 1).toInt),.list aa ((x8.cell 2).toList)]))[(IntKind.wrap .i64 (first+na):Int).toNat]?).bind fun et=>
        kn (na,(ak.set ((IntKind.wrap .i64 (first+root):Int).toNat) (.agg [.int .i64 ((x8.cell 0).toInt),.int .i64 ((x8.cell 1).toInt),.list aa ((x8.cell 2).toList)])).set ((IntKind.wrap .i64 (first+na):Int).toNat) (.agg [.int .i64 ((x9.cell 0).toInt),.int .i64 ((x9.cell 1).toInt),.list aa ((x9.cell 2).toList)]))
       else none
       else none
      else none
      else none
     else none
    else none)
   else none
  else none
  else
  uB C hi first root (IntKind.wrap .i64 ((IntKind.wrap .i64 (root*2))+1)) false ak (fun (nc:Int)=>
   bif (decide (0≤(IntKind.wrap .i64 (first+root))))&&(decide ((IntKind.wrap .i64 (first+root))<(ak.length:Int))) then
    (ak[(IntKind.wrap .i64 (first+root):Int).toNat]?).bind fun jC=>
    bif (decide (0≤(IntKind.wrap .i64 (first+nc))))&&(decide ((IntKind.wrap .i64 (first+nc))<(ak.length:Int))) then
    (ak[(IntKind.wrap .i64 (first+nc):Int).toNat]?).bind fun nf=>
    (C a9 [.int .i64 ((jC.cell 0).toInt),.int .i64 ((jC.cell 1).toInt),.list aa ((jC.cell 2).toList),.int .i64 ((nf.cell 0).toInt),.int .i64 ((nf.cell 1).toInt),.list aa ((nf.cell 2).toList)]).bind fun ng=>
    bif !(decide ((((V.nth ng 0).toInt):Int)<0)) then
     kr (.inr (root,nc,!(decide ((((V.nth ng 0).toInt):Int)<0)),ak))
    else
     bif (decide (0≤(IntKind.wrap .i64 (first+nc))))&&(decide ((IntKind.wrap .i64 (first+nc))<(ak.length:Int))) then
     (ak[(IntKind.wrap .i64 (first+nc):Int).toNat]?).bind fun gr=>
     bif (decide (0≤(IntKind.wrap .i64 (first+root))))&&(decide ((IntKind.wrap .i64 (first+root))<(ak.length:Int))) then
      (ak[(IntKind.wrap .i64 (first+root):Int).toNat]?).bind fun qJ=>
      bif (decide (0≤(IntKind.wrap .i64 (first+root))))&&(decide ((IntKind.wrap .i64 (first+root))<(ak.length:Int))) then
      (ak[(IntKind.wrap .i64 (first+root):Int).toNat]?).bind fun w6=>
      bif (decide (0≤(IntKind.wrap .i64 (first+nc))))&&(decide ((IntKind.wrap .i64 (first+nc))<((ak.set ((IntKind.wrap .i64 (first+root):Int).toNat) (.agg [.int .i64 ((gr.cell 0).toInt),.int .i64 ((gr.cell 1).toInt),.list aa ((gr.cell 2).toList)])).length:Int))) then
       ((ak.set ((IntKind.wrap .i64 (first+root):Int).toNat) (.agg [.int .i64 ((gr.cell 0).toInt),.int .i64 ((gr.cell 1).toInt),.list aa ((gr.cell 2).toList)]))[(IntKind.wrap .i64 (first+nc):Int).toNat]?).bind fun po=>
       kn (nc,(ak.set ((IntKind.wrap .i64 (first+root):Int).toNat) (.agg [.int .i64 ((gr.cell 0).toInt),.int .i64 ((gr.cell 1).toInt),.list aa ((gr.cell 2).toList)])).set ((IntKind.wrap .i64 (first+nc):Int).toNat) (.agg [.int .i64 ((qJ.cell 0).toInt),.int .i64 ((qJ.cell 1).toInt),.list aa ((qJ.cell 2).toList)]))
      else none
      else none
     else none
     else none
    else none
   else none)
noncomputable def ov (C:ag) (hi first:Int):(Int × (List V))→Option ((Int × (List V)) ⊕ ((Int × Int × Bool × (List V)) ⊕ (Int × Int × Bool × (List V)))):=un fun root ak=>sk C hi first root ak (fun y=>some (.inl y)) (fun r=>some (.inr r))
noncomputable def RG (C:ag):cB:=fun β n ds k=>
 bif Nat.beq n 655 then iJ JZ [[1,2,3,0,6]] (@uB C) ds k else
 bif Nat.beq n 17 then cj J0 [false,false,true,true] [[1,2,0,0,0,0],[1,2,0,0,0,0]] (@sk C) ds k else
 none
abbrev RH (C:ag) (b:cx):Prop:=cy Try.prog ax C (RG C) 121 (cP Try.prog (ax.aX 121)) (ax.sin 121).a8.length b
theorem ac5 (C:ag):RH C (.cond 40 (aw [1,0,0,0,1,1,0,1,0] xm) (aw [1,0,0,0,1,1,0,1,1] xm)):=
 jb JZ [[1,2,3,0,6]] (@uB C) (by kernel_rfl) (bh (bs:=[]) (by kernel_rfl) av) (bh (bs:=[]) (by kernel_rfl) av) (fun ds=>by kernel_rfl) (fun i β k=>by kernel_rfl) (fun β ds k=>by kernel_rfl)
theorem ac6 (C:ag):RH C (.loop (aw [1,0,0] xm)):=
 cr J0 [false,false,true,true] [[1,2,0,0,0,0],[1,2,0,0,0,0]] (@sk C) (by kernel_rfl) (bh (bs:=[.cond 40 (aw [1,0,0,0,1,1,0,1,0] xm) (aw [1,0,0,0,1,1,0,1,1] xm)]) (by kernel_rfl) (bG (ac5 C) av)) (fun ds=>by kernel_rfl) (fun i x=>by kernel_rfl) (fun i x β k=>by kernel_rfl) (fun β ds k=>by kernel_rfl)
noncomputable def RI (C:ag) (lo hi first:Int) (ak:List V):Option (List V):=
 (Loop (ov C hi first) (lo,ak)).bind (bX (un fun (aiH:Int)=>un fun (aiI:Int)=>un fun (Kb:Bool) (ac7:List V)=>
  some [.list aa ac7]) (un fun (aiJ:Int)=>un fun (aiK:Int)=>un fun (Qf:Bool) (qK:List V)=>
  some [.list aa qK]))
theorem ac8 {lo hi first:Int} {ak:List V} {r:Option (List V)} (h:RI CC lo hi first ak=r):CC zZ [.int .i64 lo,.int .i64 hi,.int .i64 first,.list aa ak]=r:=
 aY (key:=121) (L:=RG CC) (bs:=[.loop (aw [1,0,0] xm)]) (by kernel_rfl) (bG (ac6 CC) av) (aW (by kernel_rfl) h)
noncomputable abbrev E9:Code:=cL Try.prog (ax.aX 112)
noncomputable def AG (C:ag) (first lo hi i:Int) (ak:List V) {β:Type} (kn:(Int × (List V))→Option β) (kr:(Int × Bool × (List V))→Option β):Option β:=
 bif decide ((i:Int)≥0) then
  (C zZ [.int .i64 i,.int .i64 hi,.int .i64 first,.list aa ak]).bind fun r1=>
  kn (IntKind.wrap .i64 (i-1),(V.nth r1 0).toList)
 else
  kr (i,decide ((i:Int)≥0),ak)
noncomputable def Fb (C:ag) (first lo hi:Int):(Int × (List V))→Option ((Int × (List V)) ⊕ (Int × Bool × (List V))):=un fun i ak=>AG C first lo hi i ak (fun y=>some (.inl y)) (fun r=>some (.inr r))
noncomputable def AH (C:ag) (first lo i:Int) (ak:List V) {β:Type} (kn:(Int × (List V))→Option β) (kr:(Int × Bool × (List V))→Option β):Option β:=
 bif decide ((i:Int)≥0) then
  bif (decide (0≤(IntKind.wrap .i64 (first+i))))&&(decide ((IntKind.wrap .i64 (first+i))<(ak.length:Int))) then
  (ak[(IntKind.wrap .i64 (first+i):Int).toNat]?).bind fun x5=>
  bif (decide (0≤first))&&(decide (first<(ak.length:Int))) then
   (ak[(first:Int).toNat]?).bind fun x6=>
   bif (decide (0≤first))&&(decide (first<(ak.length:Int))) then
   (ak[(first:Int).toNat]?).bind fun x7=>
   bif (decide (0≤(IntKind.wrap .i64 (first+i))))&&(decide ((IntKind.wrap .i64 (first+i))<((ak.set ((first:Int).toNat) (.agg [.int .i64 ((x5.cell 0).toInt),.int .i64 ((x5.cell 1).toInt),.list aa ((x5.cell 2).toList)])).length:Int))) then
    ((ak.set ((first:Int).toNat) (.agg [.int .i64 ((x5.cell 0).toInt),.int .i64 ((x5.cell 1).toInt),.list aa ((x5.cell 2).toList)]))[(IntKind.wrap .i64 (first+i):Int).toNat]?).bind fun x8=>
    (C zZ [.int .i64 lo,.int .i64 i,.int .i64 first,.list aa ((ak.set ((first:Int).toNat) (.agg [.int .i64 ((x5.cell 0).toInt),.int .i64 ((x5.cell 1).toInt),.list aa ((x5.cell 2).toList)])).set ((IntKind.wrap .i64 (first+i):Int).toNat) (.agg [.int .i64 ((x6.cell 0).toInt),.int .i64 ((x6.cell 1).toInt),.list aa ((x6.cell 2).toList)]))]).bind fun r9=>
    kn (IntKind.wrap .i64 (i-1),(V.nth r9 0).toList)
   else none
   else none
  else none
  else none
 else
  kr (i,decide ((i:Int)≥0),ak)
noncomputable def Fc (C:ag) (first lo:Int):(Int × (List V))→Option ((Int × (List V)) ⊕ (Int × Bool × (List V))):=un fun i ak=>AH C first lo i ak (fun y=>some (.inl y)) (fun r=>some (.inr r))
noncomputable def RJ (C:ag):cB:=fun β n ds k=>
 bif Nat.beq n 65 then cj JD [false,false,false,true,true] [[1,2,3,0,0,0]] (@AG C) ds k else
 bif Nat.beq n 129 then cj JE [false,false,true,true] [[1,2,0,0,0]] (@AH C) ds k else
 none
abbrev RK (C:ag) (b:cx):Prop:=cy Try.prog ax C (RJ C) 112 (cP Try.prog (ax.aX 112)) (ax.sin 112).a8.length b
theorem ac9 (C:ag):RK C (.loop (aw [1,1,1,0,1,0,0] E9)):=
 cr JD [false,false,false,true,true] [[1,2,3,0,0,0]] (@AG C) (by kernel_rfl) (bh (bs:=[]) (by kernel_rfl) av) (fun ds=>by kernel_rfl) (fun i x=>by kernel_rfl) (fun i x β k=>by kernel_rfl) (fun β ds k=>by kernel_rfl)
theorem ada (C:ag):RK C (.loop (aw [1,1,1,1,1,0,0] E9)):=
 cr JE [false,false,true,true] [[1,2,0,0,0]] (@AH C) (by kernel_rfl) (bh (bs:=[]) (by kernel_rfl) av) (fun ds=>by kernel_rfl) (fun i x=>by kernel_rfl) (fun i x β k=>by kernel_rfl) (fun β ds k=>by kernel_rfl)
noncomputable def RL (C:ag) (a b':Int) (ak:List V):Option (List V):=
 (Loop (Fb C a 0 (IntKind.wrap .i64 (b'-a))) (IntKind.wrap .i64 (Int.tdiv (IntKind.wrap .i64 ((IntKind.wrap .i64 (b'-a))-1)) 2),ak)).bind (un fun (i_2:Int)=>un fun (je:Bool) (adb:List V)=>
  (Loop (Fc C a 0) (IntKind.wrap .i64 ((IntKind.wrap .i64 (b'-a))-1),adb)).bind (un fun (aiL:Int)=>un fun (EN:Bool) (mj:List V)=>
   some [.list aa mj]))
theorem ade {a b':Int} {ak:List V} {r:Option (List V)} (h:RL CC a b' ak=r):CC zX [.int .i64 a,.int .i64 b',.list aa ak]=r:=
 aY (key:=112) (L:=RJ CC) (bs:=[.loop (aw [1,1,1,0,1,0,0] E9),.loop (aw [1,1,1,1,1,0,0] E9)]) (by kernel_rfl) (bG (ac9 CC) (bG (ada CC) av)) (aW (by kernel_rfl) h)
noncomputable abbrev RM:Code:=cL Try.prog (ax.aX 115)
noncomputable def xn (C:ag) (i j:Int) (ak:List V) {β:Type} (kn:(Int × Int × (List V))→Option β) (kr:(Int × Int × Bool × (List V))→Option β):Option β:=
 bif decide ((i:Int)<j) then
  bif (decide (0≤j))&&(decide (j<(ak.length:Int))) then
  (ak[(j:Int).toNat]?).bind fun x1=>
  bif (decide (0≤i))&&(decide (i<(ak.length:Int))) then
   (ak[(i:Int).toNat]?).bind fun x2=>
   bif (decide (0≤i))&&(decide (i<(ak.length:Int))) then
   (ak[(i:Int).toNat]?).bind fun x3=>
   bif (decide (0≤j))&&(decide (j<((ak.set ((i:Int).toNat) (.agg [.int .i64 ((x1.cell 0).toInt),.int .i64 ((x1.cell 1).toInt),.list aa ((x1.cell 2).toList)])).length:Int))) then
    ((ak.set ((i:Int).toNat) (.agg [.int .i64 ((x1.cell 0).toInt),.int .i64 ((x1.cell 1).toInt),.list aa ((x1.cell 2).toList)]))[(j:Int).toNat]?).bind fun x4=>
    kn (IntKind.wrap .i64 (i+1),IntKind.wrap .i64 (j-1),(ak.set ((i:Int).toNat) (.agg [.int .i64 ((x1.cell 0).toInt),.int .i64 ((x1.cell 1).toInt),.list aa ((x1.cell 2).toList)])).set ((j:Int).toNat) (.agg [.int .i64 ((x2.cell 0).toInt),.int .i64 ((x2.cell 1).toInt),.list aa ((x2.cell 2).toList)]))
   else none
   else none
  else none
  else none
 else
  kr (i,j,decide ((i:Int)<j),ak)
noncomputable def AI (C:ag):(Int × Int × (List V))→Option ((Int × Int × (List V)) ⊕ (Int × Int × Bool × (List V))):=un fun i=>un fun j ak=>xn C i j ak (fun y=>some (.inl y)) (fun r=>some (.inr r))
noncomputable def RN (C:ag):cB:=fun β n ds k=>
 bif Nat.beq n 33 then cj JJ [true,true,true] [[0,0,0,0]] (@xn C) ds k else
 none
abbrev adf (C:ag) (b:cx):Prop:=cy Try.prog ax C (RN C) 115 (cP Try.prog (ax.aX 115)) (ax.sin 115).a8.length b
theorem adg (C:ag):adf C (.loop (aw [1,1,0,0] RM)):=
 cr JJ [true,true,true] [[0,0,0,0]] (@xn C) (by kernel_rfl) (bh (bs:=[]) (by kernel_rfl) av) (fun ds=>by kernel_rfl) (fun i x=>by kernel_rfl) (fun i x β k=>by kernel_rfl) (fun β ds k=>by kernel_rfl)
noncomputable def RO (C:ag) (a b':Int) (ak:List V):Option (List V):=
 (Loop (AI C) (a,IntKind.wrap .i64 (b'-1),ak)).bind (un fun (cT:Int)=>un fun (Ky:Int)=>un fun (ph:Bool) (adh:List V)=>
  some [.list aa adh])
theorem adi {a b':Int} {ak:List V} {r:Option (List V)} (h:RO CC a b' ak=r):CC Eo [.int .i64 a,.int .i64 b',.list aa ak]=r:=
 aY (key:=115) (L:=RN CC) (bs:=[.loop (aw [1,1,0,0] RM)]) (by kernel_rfl) (bG (adg CC) av) (aW (by kernel_rfl) h)
end Go.AM
set_option maxRecDepth 100000
set_option maxHeartbeats 4000000
namespace Go.AM.SX
open Go.Proofs Go.Sort
def ay (a b:XE):Bool:=decide (bN a b<0)
theorem sm (a b:XE):(ay a b=true)=(bN a b<0):=by unfold ay;rw[dF]
theorem qL (a b:XE):((!ay a b)=true)= ¬(bN a b<0):=by unfold ay;simp
abbrev eA (d:Array XE):List V:=pn XE.enc d
theorem adj (a j:Nat) (d:Array XE):insInner ay a (j+1) d=if j+1>a then (if bN d[j+1]! d[j]! <0 then insInner ay a j (swp d (j+1) j) else d) else d:=by
 rw[RC]
 by_cases h1:j+1>a
 ·rw[aj h1];simp only[h1,rh,lF,sm]
 ·rw[ai h1,ai (by simp[h1])]
theorem KH (hi first root:Nat) (d:Array XE):siftDown ay hi first root d=
  if 2*root+1≥hi then d else
   if 2*root+2<hi then
    (if bN d[first+(2*root+1)]! d[first+(2*root+2)]! <0 then
     (if bN d[first+root]! d[first+(2*root+2)]! <0 then siftDown ay hi first (2*root+2) (swp d (first+root) (first+(2*root+2))) else d)
    else (if bN d[first+root]! d[first+(2*root+1)]! <0 then siftDown ay hi first (2*root+1) (swp d (first+root) (first+(2*root+1))) else d))
   else (if bN d[first+root]! d[first+(2*root+1)]! <0 then siftDown ay hi first (2*root+1) (swp d (first+root) (first+(2*root+1))) else d):=by
 rw[siftDown]
 by_cases h1:2*root+1≥hi
 ·rw[rb h1,aj h1]
 rw[dif_neg h1,ai h1]
 by_cases U:2*root+2<hi
 ·rw[aj U]
  by_cases h3:bN d[first+(2*root+1)]! d[first+(2*root+2)]! <0
  ·rw[aj h3,aj (by simp only[aI,dF,sm];exact ⟨U,h3⟩)]
   simp only[qL]
   by_cases h4:bN d[first+root]! d[first+(2*root+2)]! <0
   ·rw[ai (pL h4),rb U,aj h4]
   ·rw[aj h4,ai h4]
  ·rw[ai h3,ai (by simp only[aI,dF,sm];exact fun h=>h3 h.2)]
   simp only[qL]
   by_cases h4:bN d[first+root]! d[first+(2*root+1)]! <0
   ·rw[ai (pL h4),aj h4]
   ·rw[aj h4,ai h4]
 ·rw[ai U,ai (by simp only[aI,dF,sm];exact fun h=>U h.1)]
  simp only[qL]
  by_cases h4:bN d[first+root]! d[first+(2*root+1)]! <0
  ·rw[ai (pL h4),aj h4]
  ·rw[aj h4,ai h4]
theorem RP {a b i:Nat}: ∀(j:Nat) (d:Array XE),j<d.size→d.size<1152921504606846976→
  ∃j' t,Loop (xl CC a b i) ((j:Int),eA d)=some (j',t,eA (insInner ay a j d))
 | 0,d,hj,hs=>⟨(0:Nat),false,bd (by
   simp (disch:=omega) only[xl,xk,un,aB,ai]
   rfl)⟩
 | j+1,d,hj,hs=>by
  obtain ⟨j',t,ih⟩:=RP (a:=a) (b:=b) (i:=i) j (swp d (j+1) j) (by rw[size_swp];omega) (by rw[size_swp];omega)
  rw[adj]
  by_cases h1:j+1>a
  ·rw[aj h1]
   have e:xl CC a b i (((j+1:Nat):Int),eA d)=if bN d[j+1]! d[j]! <0 then some (.inl ((j:Int),eA (swp d (j+1) j))) else some (.inr (((j+1:Nat):Int),decide (bN d[j+1]! d[j]! <0),eA d)):=by
    simp (disch:=omega) only[xl,xk,un,aB,dj,hX,aj,ai,wrap64,dB,fC,Int.toNat_natCast,Option.bind_some,fy,fB,XE.bn,XE.bp,XE.bq,XE.re,fA,ib,gz,gq,V.aR,V.toInt_int,cond_true,cond_false,uA]
    rfl
   by_cases U:bN d[j+1]! d[j]! <0
   ·rw[aj U] at e⊢
    exact ⟨j',t,(bR e).trans ih⟩
   ·rw[ai U] at e⊢
    exact ⟨_,_,bd e⟩
  ·rw[ai h1]
   exact ⟨((j+1:Nat):Int),false,bd (by
    simp (disch:=omega) only[xl,xk,un,aB,ai])⟩
theorem adk {a b:Nat}: ∀(n i:Nat) (d:Array XE),b-i=n→b≤d.size→d.size<1152921504606846976→
  ∃j' t,Loop (E8 CC a b) ((i:Int),eA d)=some (j',t,eA (insOuter ay a b i d)):=by
 intro n
 induction n with
 | zero=>
  intro i d hn hb hs
  rw[insOuter,ai (by omega)]
  exact ⟨(i:Int),false,bd (by
   simp (disch:=omega) only[E8,AF,un,sj,cond_false])⟩
 | succ n ih=>
  intro i d hn hb hs
  obtain ⟨j1,t1,h1⟩:=RP (a:=a) (b:=b) (i:=i) i d (by omega) hs
  obtain ⟨j',t,U⟩:=ih (i+1) (insInner ay a i d) (by omega) (by rw[KE];omega) (by rw[KE];omega)
  rw[insOuter,aj (by omega)]
  refine ⟨j',t,(bR ?_).trans U⟩
  simp (disch:=omega) only[E8,AF,un,aB,aj,h1,Option.bind_some,dB,wrap64]
theorem RQ {a b:Nat} {d:Array XE} (hb:b≤d.size) (hs:d.size<1152921504606846976) (ha:a<1152921504606846976):
  CC zW [.int .i64 (a:Int),.int .i64 (b:Int),.list aa (eA d)]=some [.list aa (eA (insertionSort ay d a b))]:=by
 refine ac4 ?_
 unfold RF
 obtain ⟨j',t,h⟩:=adk (a:=a) (b:=b) _ (a+1) d rfl hb hs
 simp (disch:=omega) only[dB,wrap64]
 rw[h]
 rfl
theorem adl (hi first:Nat): ∀(n root:Nat) (d:Array XE),hi-root≤n→root<1152921504606846976→first+hi≤d.size→d.size<1152921504606846976→
  (∃x y z,Loop (ov CC hi first) ((root:Int),eA d)=some (.inl (x,y,z,eA (siftDown ay hi first root d))))∨
  (∃x y z,Loop (ov CC hi first) ((root:Int),eA d)=some (.inr (x,y,z,eA (siftDown ay hi first root d)))):=by
 intro n
 induction n with
 | zero=>
  intro root d hn hr hb hs
  rw[KH,aj (by omega)]
  exact .inl ⟨(root:Int),((root*2+1:Nat):Int),true,bd (by
   simp (disch:=omega) only[ov,sk,un,AD,dB,wrap64];rw[m9 (by omega)];rfl)⟩
 | succ n ih=>
  intro root d hn hr hb hs
  by_cases h1:2*root+1≥hi
  ·rw[KH,aj h1]
   exact .inl ⟨(root:Int),((root*2+1:Nat):Int),true,bd (by
    simp (disch:=omega) only[ov,sk,un,AD,dB,wrap64];rw[m9 (by omega)];rfl)⟩
  ·have go: ∀c:Nat,c<hi→root<c→(ov CC hi first ((root:Int),eA d)=
      if bN d[first+root]! d[first+c]! <0 then some (.inl ((c:Int),eA (swp d (first+root) (first+c)))) else some (.inr (.inr ((root:Int),(c:Int),true,eA d))))→
     siftDown ay hi first root d=(if bN d[first+root]! d[first+c]! <0 then siftDown ay hi first c (swp d (first+root) (first+c)) else d)→
     ((∃x y z,Loop (ov CC hi first) ((root:Int),eA d)=some (.inl (x,y,z,eA (siftDown ay hi first root d))))∨
     (∃x y z,Loop (ov CC hi first) ((root:Int),eA d)=some (.inr (x,y,z,eA (siftDown ay hi first root d))))):=by
    intro c hc hrc e1 e2
    rw[e2]
    by_cases h3:bN d[first+root]! d[first+c]! <0
    ·rw[aj h3] at e1
     rw[aj h3,bR e1]
     exact ih c _ (by omega) (by omega) (by rw[size_swp];omega) (by rw[size_swp];omega)
    ·rw[ai h3] at e1
     rw[ai h3,bd e1]
     exact .inr ⟨_,_,_,rfl⟩
   have e0:=KH hi first root d
   rw[ai h1] at e0
   by_cases U:2*root+2<hi
   ·rw[aj U] at e0
    by_cases h3:bN d[first+(2*root+1)]! d[first+(2*root+2)]! <0
    ·rw[aj h3] at e0
     refine go (2*root+2) (by omega) (by omega) ?_ e0
     rw[nA 2 root] at h3
     simp (disch:=omega) only[ov,sk,un,AD,dB,fC,wrap64]
     rw[aB,ai (by omega),aB,aj (by omega)]
     simp (disch:=omega) only[uB,aB,dj,hX,aj,ai,wrap64,dB,fC,Int.toNat_natCast,Option.bind_some,fy,fB,XE.bn,XE.bp,XE.bq,XE.re,fA,ib,gz,gq,V.aR,V.toInt_int,cond_true,cond_false,nA 2 root,m9]
     by_cases h4:bN d[first+root]! d[first+(root*2+2)]! <0
     ·simp only[h4,dm];rfl
     ·simp only[h4,gv];rfl
    ·rw[ai h3] at e0
     refine go (2*root+1) (by omega) (by omega) ?_ e0
     rw[nA 2 root] at h3
     simp (disch:=omega) only[ov,sk,un,AD,dB,fC,wrap64]
     rw[aB,ai (by omega),aB,aj (by omega)]
     simp (disch:=omega) only[uB,aB,dj,hX,aj,ai,wrap64,dB,fC,Int.toNat_natCast,Option.bind_some,fy,fB,XE.bn,XE.bp,XE.bq,XE.re,fA,ib,gz,gq,V.aR,V.toInt_int,cond_true,cond_false,nA 2 root,sj]
     by_cases h4:bN d[first+root]! d[first+(root*2+1)]! <0
     ·simp only[h4,dm];rfl
     ·simp only[h4,gv];rfl
   ·rw[ai U] at e0
    refine go (2*root+1) (by omega) (by omega) ?_ e0
    simp (disch:=omega) only[ov,sk,un,AD,dB,fC,wrap64]
    rw[aB,ai (by omega),aB,ai (by omega)]
    simp (disch:=omega) only[uB,aB,dj,hX,aj,ai,wrap64,dB,fC,Int.toNat_natCast,Option.bind_some,fy,fB,XE.bn,XE.bp,XE.bq,XE.re,fA,ib,gz,gq,V.aR,V.toInt_int,cond_true,cond_false,nA 2 root]
    by_cases h4:bN d[first+root]! d[first+(root*2+1)]! <0
    ·simp only[h4,dm];rfl
    ·simp only[h4,gv];rfl
theorem RR {lo hi first:Nat} {d:Array XE} (hl:lo<1152921504606846976) (hb:first+hi≤d.size) (hs:d.size<1152921504606846976):
  CC zZ [.int .i64 (lo:Int),.int .i64 (hi:Int),.int .i64 (first:Int),.list aa (eA d)]=some [.list aa (eA (siftDown ay hi first lo d))]:=by
 refine ac8 ?_
 unfold RI
 rcases adl hi first _ lo d (cf _) hl hb hs with ⟨x,y,z,h⟩|⟨x,y,z,h⟩
 ·rw[h];rfl
 ·rw[h];rfl
theorem RS {hi first:Nat}: ∀(k:Nat) (d:Array XE),k<1152921504606846976→first+hi≤d.size→d.size<1152921504606846976→
  ∃x y,Loop (Fb CC first 0 hi) ((k:Int)-1,eA d)=some (x,y,eA (heapBuild ay hi first k d))
 | 0,d,hk,hb,hs=>⟨-1,false,bd (by
   simp (disch:=omega) only[Fb,AG,un,aB,ai]
   rfl)⟩
 | k+1,d,hk,hb,hs=>by
  obtain ⟨x,y,ih⟩:=RS (hi:=hi) (first:=first) k (siftDown ay hi first k d) (by omega) (by rw[AE _ _ _ _ _ (cf _)];omega) (by rw[AE _ _ _ _ _ (cf _)];omega)
  refine ⟨x,y,(bR ?_).trans ih⟩
  simp (disch:=omega) only[Fb,AG,un,aB,aj,uA,RR,Option.bind_some,V.aR,V.ln,wrap64]
theorem RT {first:Nat}: ∀(k:Nat) (d:Array XE),k<1152921504606846976→first+k≤d.size→d.size<1152921504606846976→
  ∃x y,Loop (Fc CC first 0) ((k:Int)-1,eA d)=some (x,y,eA (heapPop ay first k d))
 | 0,d,hk,hb,hs=>⟨-1,false,bd (by
   simp (disch:=omega) only[Fc,AH,un,aB,ai]
   rfl)⟩
 | k+1,d,hk,hb,hs=>by
  obtain ⟨x,y,ih⟩:=RT (first:=first) k (siftDown ay k first 0 (swp d first (first+k))) (by omega) (by rw[AE _ _ _ _ _ (cf _),size_swp];omega) (by rw[AE _ _ _ _ _ (cf _),size_swp];omega)
  refine ⟨x,y,(bR ?_).trans ih⟩
  have gH:=RR (lo:=0) (hi:=k) (first:=first) (d:=swp d first (first+k)) (by omega) (by rw[size_swp];omega) (by rw[size_swp];omega)
  unfold swp at gH⊢
  rw[show ((0:Nat):Int)=0 from rfl] at gH
  simp (disch:=omega) only[Fc,AH,un,uA,aB,dj,hX,aj,ai,wrap64,dB,fC,Int.toNat_natCast,Option.bind_some,fy,fB,XE.bn,XE.bp,XE.bq,XE.re,fA,ib,gz,gq,V.aR,V.toInt_int,cond_true,cond_false]
  rw[gH]
  simp (disch:=omega) only[Option.bind_some,V.aR,V.ln,wrap64]
theorem adm {a b:Nat} {d:Array XE} (eV:a<b) (hb:b≤d.size) (hs:d.size<1152921504606846976):
  CC zX [.int .i64 (a:Int),.int .i64 (b:Int),.list aa (eA d)]=some [.list aa (eA (heapSort ay d a b))]:=by
 refine ade ?_
 unfold RL
 obtain ⟨x,y,h1⟩:=RS (hi:=b-a) (first:=a) ((b-a-1)/2+1) d (by omega) (by omega) hs
 obtain ⟨x2,y2,U⟩:=RT (first:=a) (b-a) (heapBuild ay (b-a) a ((b-a-1)/2+1) d) (by omega) (by rw[KF];omega) (by rw[KF];omega)
 have e1:((((b-a-1)/2+1:Nat):Int)-1)=Int.tdiv (((b-a:Nat):Int)-1) 2:=by
  rw[Int.tdiv_eq_ediv_of_nonneg (by omega)]
  omega
 rw[e1] at h1
 simp (disch:=omega) only[mi,wrap64]
 rw[h1]
 simp only[Option.bind_some,un]
 rw[U]
 rfl
theorem adn: ∀(n i j:Nat) (d:Array XE),j-i≤n→j<d.size→d.size<1152921504606846976→
  ∃x y z,Loop (AI CC) ((i:Int),(j:Int),eA d)=some (x,y,z,eA (reverseLoop i j d)):=by
 intro n
 induction n with
 | zero=>
  intro i j d hn hj hs
  rw[reverseLoop,ai (by omega)]
  exact ⟨(i:Int),(j:Int),false,bd (by
   simp (disch:=omega) only[AI,xn,un,sj,cond_false])⟩
 | succ n ih=>
  intro i j d hn hj hs
  rw[reverseLoop]
  by_cases h:i<j
  ·rw[aj h]
   obtain ⟨x,y,z,U⟩:=ih (i+1) (j-1) (swp d i j) (by omega) (by rw[size_swp];omega) (by rw[size_swp];omega)
   refine ⟨x,y,z,(bR ?_).trans U⟩
   simp (disch:=omega) only[AI,xn,un,aB,dj,hX,aj,ai,wrap64,dB,fC,Int.toNat_natCast,Option.bind_some,fy,fB,XE.bn,XE.bp,XE.bq,XE.re,fA,ib,gz,gq,V.aR,V.toInt_int,cond_true,cond_false,j9]
   rfl
  ·rw[ai h]
   exact ⟨(i:Int),(j:Int),false,bd (by
    simp (disch:=omega) only[AI,xn,un,sj,cond_false])⟩
theorem ado {a b:Nat} {d:Array XE} (eV:a<b) (hb:b≤d.size) (hs:d.size<1152921504606846976):
  CC Eo [.int .i64 (a:Int),.int .i64 (b:Int),.list aa (eA d)]=some [.list aa (eA (reverseRange d a b))]:=by
 refine adi ?_
 unfold RO
 obtain ⟨x,y,z,h⟩:=adn _ a (b-1) d (cf _) (by omega) hs
 simp (disch:=omega) only[j9,wrap64]
 rw[h]
 rfl
end Go.AM.SX
set_option maxRecDepth 100000
namespace Go.AM
open Go.Proofs
noncomputable abbrev pq:Code:=cL Try.prog (ax.aX 118)
noncomputable def AJ (C:ag) (a j:Int) (ak:List V) (i:Int) {β:Type} (kn:Int→Option β) (kr:(Int × Bool)→Option β):Option β:=
 bif decide ((i:Int)≤j) then
  bif (decide (0≤i))&&(decide (i<(ak.length:Int))) then
  (ak[(i:Int).toNat]?).bind fun x5=>
  bif (decide (0≤a))&&(decide (a<(ak.length:Int))) then
   (ak[(a:Int).toNat]?).bind fun x6=>
   (C a9 [.int .i64 ((x5.cell 0).toInt),.int .i64 ((x5.cell 1).toInt),.list aa ((x5.cell 2).toList),.int .i64 ((x6.cell 0).toInt),.int .i64 ((x6.cell 1).toInt),.list aa ((x6.cell 2).toList)]).bind fun r7=>
   bif decide ((((V.nth r7 0).toInt):Int)<0) then
   kn (IntKind.wrap .i64 (i+1))
   else
   kr (i,decide ((((V.nth r7 0).toInt):Int)<0))
  else none
  else none
 else
  kr (i,false)
noncomputable def AK (C:ag) (a j:Int) (ak:List V):(Int)→Option ((Int) ⊕ (Int × Bool)):=fun i=>AJ C a j ak i (fun y=>some (.inl y)) (fun r=>some (.inr r))
noncomputable def xo (C:ag) (a i:Int) (ak:List V) (j:Int) {β:Type} (kn:Int→Option β) (kr:(Int × Bool)→Option β):Option β:=
 bif decide ((i:Int)≤j) then
  bif (decide (0≤j))&&(decide (j<(ak.length:Int))) then
  (ak[(j:Int).toNat]?).bind fun lu=>
  bif (decide (0≤a))&&(decide (a<(ak.length:Int))) then
   (ak[(a:Int).toNat]?).bind fun et=>
   (C a9 [.int .i64 ((lu.cell 0).toInt),.int .i64 ((lu.cell 1).toInt),.list aa ((lu.cell 2).toList),.int .i64 ((et.cell 0).toInt),.int .i64 ((et.cell 1).toInt),.list aa ((et.cell 2).toList)]).bind fun fD=>
   bif !(decide ((((V.nth fD 0).toInt):Int)<0)) then
   kn (IntKind.wrap .i64 (j-1))
   else
   kr (j,!(decide ((((V.nth fD 0).toInt):Int)<0)))
  else none
  else none
 else
  kr (j,false)
noncomputable def xp (C:ag) (a i:Int) (ak:List V):(Int)→Option ((Int) ⊕ (Int × Bool)):=fun j=>xo C a i ak j (fun y=>some (.inl y)) (fun r=>some (.inr r))
noncomputable def AL (C:ag) (a j:Int) (ak:List V) (i:Int) {β:Type} (kn:Int→Option β) (kr:(Int × Bool)→Option β):Option β:=
 bif decide ((i:Int)≤j) then
  bif (decide (0≤i))&&(decide (i<(ak.length:Int))) then
  (ak[(i:Int).toNat]?).bind fun jA=>
  bif (decide (0≤a))&&(decide (a<(ak.length:Int))) then
   (ak[(a:Int).toNat]?).bind fun uC=>
   (C a9 [.int .i64 ((jA.cell 0).toInt),.int .i64 ((jA.cell 1).toInt),.list aa ((jA.cell 2).toList),.int .i64 ((uC.cell 0).toInt),.int .i64 ((uC.cell 1).toInt),.list aa ((uC.cell 2).toList)]).bind fun RU=>
   bif decide ((((V.nth RU 0).toInt):Int)<0) then
   kn (IntKind.wrap .i64 (i+1))
   else
   kr (i,decide ((((V.nth RU 0).toInt):Int)<0))
  else none
  else none
 else
  kr (i,false)
noncomputable def AN (C:ag) (a j:Int) (ak:List V):(Int)→Option ((Int) ⊕ (Int × Bool)):=fun i=>AL C a j ak i (fun y=>some (.inl y)) (fun r=>some (.inr r))
noncomputable def xq (C:ag) (a i:Int) (ak:List V) (j:Int) {β:Type} (kn:Int→Option β) (kr:(Int × Bool)→Option β):Option β:=
 bif decide ((i:Int)≤j) then
  bif (decide (0≤j))&&(decide (j<(ak.length:Int))) then
  (ak[(j:Int).toNat]?).bind fun uD=>
  bif (decide (0≤a))&&(decide (a<(ak.length:Int))) then
   (ak[(a:Int).toNat]?).bind fun uE=>
   (C a9 [.int .i64 ((uD.cell 0).toInt),.int .i64 ((uD.cell 1).toInt),.list aa ((uD.cell 2).toList),.int .i64 ((uE.cell 0).toInt),.int .i64 ((uE.cell 1).toInt),.list aa ((uE.cell 2).toList)]).bind fun Fe=>
   bif !(decide ((((V.nth Fe 0).toInt):Int)<0)) then
   kn (IntKind.wrap .i64 (j-1))
   else
   kr (j,!(decide ((((V.nth Fe 0).toInt):Int)<0)))
  else none
  else none
 else
  kr (j,false)
noncomputable def xr (C:ag) (a i:Int) (ak:List V):(Int)→Option ((Int) ⊕ (Int × Bool)):=fun j=>xq C a i ak j (fun y=>some (.inl y)) (fun r=>some (.inr r))
noncomputable def AO (C:ag) (a i j:Int) (ak:List V) {β:Type} (kn:(Int × Int × (List V))→Option β) (kr:(Int × Int × Bool × (List V))→Option β):Option β:=
 (Loop (AN C a j ak) i).bind (un fun (ly:Int) (Qg:Bool)=>
  (Loop (xr C a ly ak) j).bind (un fun (ow:Int) (ZN:Bool)=>
   bif decide ((ly:Int)>ow) then
    kr (ly,ow,decide ((ly:Int)>ow),ak)
   else
    bif (decide (0≤ow))&&(decide (ow<(ak.length:Int))) then
    (ak[(ow:Int).toNat]?).bind fun qM=>
    bif (decide (0≤ly))&&(decide (ly<(ak.length:Int))) then
     (ak[(ly:Int).toNat]?).bind fun KI=>
     bif (decide (0≤ly))&&(decide (ly<(ak.length:Int))) then
     (ak[(ly:Int).toNat]?).bind fun x35=>
     bif (decide (0≤ow))&&(decide (ow<((ak.set ((ly:Int).toNat) (.agg [.int .i64 ((qM.cell 0).toInt),.int .i64 ((qM.cell 1).toInt),.list aa ((qM.cell 2).toList)])).length:Int))) then
      ((ak.set ((ly:Int).toNat) (.agg [.int .i64 ((qM.cell 0).toInt),.int .i64 ((qM.cell 1).toInt),.list aa ((qM.cell 2).toList)]))[(ow:Int).toNat]?).bind fun x36=>
      kn (IntKind.wrap .i64 (ly+1),IntKind.wrap .i64 (ow-1),(ak.set ((ly:Int).toNat) (.agg [.int .i64 ((qM.cell 0).toInt),.int .i64 ((qM.cell 1).toInt),.list aa ((qM.cell 2).toList)])).set ((ow:Int).toNat) (.agg [.int .i64 ((KI.cell 0).toInt),.int .i64 ((KI.cell 1).toInt),.list aa ((KI.cell 2).toList)]))
     else none
     else none
    else none
    else none))
noncomputable def xt (C:ag) (a:Int):(Int × Int × (List V))→Option ((Int × Int × (List V)) ⊕ (Int × Int × Bool × (List V))):=un fun i=>un fun j ak=>AO C a i j ak (fun y=>some (.inl y)) (fun r=>some (.inr r))
noncomputable def RV (C:ag):cB:=fun β n ds k=>
 bif Nat.beq n 49 then cj JS [false,true,false,false] [[1,0,3,0,4]] (@AJ C) ds k else
 bif Nat.beq n 81 then cj JT [false,false,true,false] [[1,2,0,0,4]] (@xo C) ds k else
 bif Nat.beq n 209 then cj JU [false,true,false,false] [[1,0,3,0,4]] (@AL C) ds k else
 bif Nat.beq n 241 then cj JV [false,false,true,false] [[1,2,0,0,4]] (@xq C) ds k else
 bif Nat.beq n 210 then cj JW [false,true,true,true] [[1,0,0,0,0]] (@AO C) ds k else
 none
abbrev AP (C:ag) (b:cx):Prop:=cy Try.prog ax C (RV C) 118 (cP Try.prog (ax.aX 118)) (ax.sin 118).a8.length b
theorem adp (C:ag):AP C (.loop (aw [1,1,1,0,0,0] pq)):=
 cr JS [false,true,false,false] [[1,0,3,0,4]] (@AJ C) (by kernel_rfl) (bh (bs:=[]) (by kernel_rfl) av) (fun ds=>by kernel_rfl) (fun i x=>by kernel_rfl) (fun i x β k=>by kernel_rfl) (fun β ds k=>by kernel_rfl)
theorem adq (C:ag):AP C (.loop (aw [1,1,1,1,0,0,0] pq)):=
 cr JT [false,false,true,false] [[1,2,0,0,4]] (@xo C) (by kernel_rfl) (bh (bs:=[]) (by kernel_rfl) av) (fun ds=>by kernel_rfl) (fun i x=>by kernel_rfl) (fun i x β k=>by kernel_rfl) (fun β ds k=>by kernel_rfl)
theorem adr (C:ag):AP C (.loop (aw [1,1,1,1,1,1,1,1,1,0,0,0,0,0,0,0] pq)):=
 cr JU [false,true,false,false] [[1,0,3,0,4]] (@AL C) (by kernel_rfl) (bh (bs:=[]) (by kernel_rfl) av) (fun ds=>by kernel_rfl) (fun i x=>by kernel_rfl) (fun i x β k=>by kernel_rfl) (fun β ds k=>by kernel_rfl)
theorem ads (C:ag):AP C (.loop (aw [1,1,1,1,1,1,1,1,1,0,0,0,0,1,0,0,0] pq)):=
 cr JV [false,false,true,false] [[1,2,0,0,4]] (@xq C) (by kernel_rfl) (bh (bs:=[]) (by kernel_rfl) av) (fun ds=>by kernel_rfl) (fun i x=>by kernel_rfl) (fun i x β k=>by kernel_rfl) (fun β ds k=>by kernel_rfl)
theorem adt (C:ag):AP C (.loop (aw [1,1,1,1,1,1,1,1,1,0,0,0] pq)):=
 cr JW [false,true,true,true] [[1,0,0,0,0]] (@AO C) (by kernel_rfl) (bh (bs:=[.loop (aw [1,1,1,1,1,1,1,1,1,0,0,0,0,0,0,0] pq),.loop (aw [1,1,1,1,1,1,1,1,1,0,0,0,0,1,0,0,0] pq)]) (by kernel_rfl) (bG (adr C) (bG (ads C) av))) (fun ds=>by kernel_rfl) (fun i x=>by kernel_rfl) (fun i x β k=>by kernel_rfl) (fun β ds k=>by kernel_rfl)
noncomputable def RW (C:ag) (a b' pivot:Int) (ak:List V):Option (List V):=
 bif (decide (0≤pivot))&&(decide (pivot<(ak.length:Int))) then
  (ak[(pivot:Int).toNat]?).bind fun x1=>
  bif (decide (0≤a))&&(decide (a<(ak.length:Int))) then
  (ak[(a:Int).toNat]?).bind fun x2=>
  bif (decide (0≤a))&&(decide (a<(ak.length:Int))) then
   (ak[(a:Int).toNat]?).bind fun x3=>
   bif (decide (0≤pivot))&&(decide (pivot<((ak.set ((a:Int).toNat) (.agg [.int .i64 ((x1.cell 0).toInt),.int .i64 ((x1.cell 1).toInt),.list aa ((x1.cell 2).toList)])).length:Int))) then
   ((ak.set ((a:Int).toNat) (.agg [.int .i64 ((x1.cell 0).toInt),.int .i64 ((x1.cell 1).toInt),.list aa ((x1.cell 2).toList)]))[(pivot:Int).toNat]?).bind fun x4=>
   (Loop (AK C a (IntKind.wrap .i64 (b'-1)) ((ak.set ((a:Int).toNat) (.agg [.int .i64 ((x1.cell 0).toInt),.int .i64 ((x1.cell 1).toInt),.list aa ((x1.cell 2).toList)])).set ((pivot:Int).toNat) (.agg [.int .i64 ((x2.cell 0).toInt),.int .i64 ((x2.cell 1).toInt),.list aa ((x2.cell 2).toList)]))) (IntKind.wrap .i64 (a+1))).bind (un fun (eP:Int) (sd:Bool)=>
    (Loop (xp C a eP ((ak.set ((a:Int).toNat) (.agg [.int .i64 ((x1.cell 0).toInt),.int .i64 ((x1.cell 1).toInt),.list aa ((x1.cell 2).toList)])).set ((pivot:Int).toNat) (.agg [.int .i64 ((x2.cell 0).toInt),.int .i64 ((x2.cell 1).toInt),.list aa ((x2.cell 2).toList)]))) (IntKind.wrap .i64 (b'-1))).bind (un fun (ec:Int) (wS:Bool)=>
     bif decide ((eP:Int)>ec) then
      bif (decide (0≤a))&&(decide (a<(((ak.set ((a:Int).toNat) (.agg [.int .i64 ((x1.cell 0).toInt),.int .i64 ((x1.cell 1).toInt),.list aa ((x1.cell 2).toList)])).set ((pivot:Int).toNat) (.agg [.int .i64 ((x2.cell 0).toInt),.int .i64 ((x2.cell 1).toInt),.list aa ((x2.cell 2).toList)])).length:Int))) then
      (((ak.set ((a:Int).toNat) (.agg [.int .i64 ((x1.cell 0).toInt),.int .i64 ((x1.cell 1).toInt),.list aa ((x1.cell 2).toList)])).set ((pivot:Int).toNat) (.agg [.int .i64 ((x2.cell 0).toInt),.int .i64 ((x2.cell 1).toInt),.list aa ((x2.cell 2).toList)]))[(a:Int).toNat]?).bind fun fE=>
      bif (decide (0≤ec))&&(decide (ec<(((ak.set ((a:Int).toNat) (.agg [.int .i64 ((x1.cell 0).toInt),.int .i64 ((x1.cell 1).toInt),.list aa ((x1.cell 2).toList)])).set ((pivot:Int).toNat) (.agg [.int .i64 ((x2.cell 0).toInt),.int .i64 ((x2.cell 1).toInt),.list aa ((x2.cell 2).toList)])).length:Int))) then
       (((ak.set ((a:Int).toNat) (.agg [.int .i64 ((x1.cell 0).toInt),.int .i64 ((x1.cell 1).toInt),.list aa ((x1.cell 2).toList)])).set ((pivot:Int).toNat) (.agg [.int .i64 ((x2.cell 0).toInt),.int .i64 ((x2.cell 1).toInt),.list aa ((x2.cell 2).toList)]))[(ec:Int).toNat]?).bind fun gr=>
       bif (decide (0≤ec))&&(decide (ec<(((ak.set ((a:Int).toNat) (.agg [.int .i64 ((x1.cell 0).toInt),.int .i64 ((x1.cell 1).toInt),.list aa ((x1.cell 2).toList)])).set ((pivot:Int).toNat) (.agg [.int .i64 ((x2.cell 0).toInt),.int .i64 ((x2.cell 1).toInt),.list aa ((x2.cell 2).toList)])).length:Int))) then
       (((ak.set ((a:Int).toNat) (.agg [.int .i64 ((x1.cell 0).toInt),.int .i64 ((x1.cell 1).toInt),.list aa ((x1.cell 2).toList)])).set ((pivot:Int).toNat) (.agg [.int .i64 ((x2.cell 0).toInt),.int .i64 ((x2.cell 1).toInt),.list aa ((x2.cell 2).toList)]))[(ec:Int).toNat]?).bind fun qJ=>
       bif (decide (0≤a))&&(decide (a<((((ak.set ((a:Int).toNat) (.agg [.int .i64 ((x1.cell 0).toInt),.int .i64 ((x1.cell 1).toInt),.list aa ((x1.cell 2).toList)])).set ((pivot:Int).toNat) (.agg [.int .i64 ((x2.cell 0).toInt),.int .i64 ((x2.cell 1).toInt),.list aa ((x2.cell 2).toList)])).set ((ec:Int).toNat) (.agg [.int .i64 ((fE.cell 0).toInt),.int .i64 ((fE.cell 1).toInt),.list aa ((fE.cell 2).toList)])).length:Int))) then
        ((((ak.set ((a:Int).toNat) (.agg [.int .i64 ((x1.cell 0).toInt),.int .i64 ((x1.cell 1).toInt),.list aa ((x1.cell 2).toList)])).set ((pivot:Int).toNat) (.agg [.int .i64 ((x2.cell 0).toInt),.int .i64 ((x2.cell 1).toInt),.list aa ((x2.cell 2).toList)])).set ((ec:Int).toNat) (.agg [.int .i64 ((fE.cell 0).toInt),.int .i64 ((fE.cell 1).toInt),.list aa ((fE.cell 2).toList)]))[(a:Int).toNat]?).bind fun w6=>
        some [.int .i64 ec,.bool true,.list aa ((((ak.set ((a:Int).toNat) (.agg [.int .i64 ((x1.cell 0).toInt),.int .i64 ((x1.cell 1).toInt),.list aa ((x1.cell 2).toList)])).set ((pivot:Int).toNat) (.agg [.int .i64 ((x2.cell 0).toInt),.int .i64 ((x2.cell 1).toInt),.list aa ((x2.cell 2).toList)])).set ((ec:Int).toNat) (.agg [.int .i64 ((fE.cell 0).toInt),.int .i64 ((fE.cell 1).toInt),.list aa ((fE.cell 2).toList)])).set ((a:Int).toNat) (.agg [.int .i64 ((gr.cell 0).toInt),.int .i64 ((gr.cell 1).toInt),.list aa ((gr.cell 2).toList)]))]
       else none
       else none
      else none
      else none
     else
      bif (decide (0≤ec))&&(decide (ec<(((ak.set ((a:Int).toNat) (.agg [.int .i64 ((x1.cell 0).toInt),.int .i64 ((x1.cell 1).toInt),.list aa ((x1.cell 2).toList)])).set ((pivot:Int).toNat) (.agg [.int .i64 ((x2.cell 0).toInt),.int .i64 ((x2.cell 1).toInt),.list aa ((x2.cell 2).toList)])).length:Int))) then
      (((ak.set ((a:Int).toNat) (.agg [.int .i64 ((x1.cell 0).toInt),.int .i64 ((x1.cell 1).toInt),.list aa ((x1.cell 2).toList)])).set ((pivot:Int).toNat) (.agg [.int .i64 ((x2.cell 0).toInt),.int .i64 ((x2.cell 1).toInt),.list aa ((x2.cell 2).toList)]))[(ec:Int).toNat]?).bind fun po=>
      bif (decide (0≤eP))&&(decide (eP<(((ak.set ((a:Int).toNat) (.agg [.int .i64 ((x1.cell 0).toInt),.int .i64 ((x1.cell 1).toInt),.list aa ((x1.cell 2).toList)])).set ((pivot:Int).toNat) (.agg [.int .i64 ((x2.cell 0).toInt),.int .i64 ((x2.cell 1).toInt),.list aa ((x2.cell 2).toList)])).length:Int))) then
       (((ak.set ((a:Int).toNat) (.agg [.int .i64 ((x1.cell 0).toInt),.int .i64 ((x1.cell 1).toInt),.list aa ((x1.cell 2).toList)])).set ((pivot:Int).toNat) (.agg [.int .i64 ((x2.cell 0).toInt),.int .i64 ((x2.cell 1).toInt),.list aa ((x2.cell 2).toList)]))[(eP:Int).toNat]?).bind fun uF=>
       bif (decide (0≤eP))&&(decide (eP<(((ak.set ((a:Int).toNat) (.agg [.int .i64 ((x1.cell 0).toInt),.int .i64 ((x1.cell 1).toInt),.list aa ((x1.cell 2).toList)])).set ((pivot:Int).toNat) (.agg [.int .i64 ((x2.cell 0).toInt),.int .i64 ((x2.cell 1).toInt),.list aa ((x2.cell 2).toList)])).length:Int))) then
       (((ak.set ((a:Int).toNat) (.agg [.int .i64 ((x1.cell 0).toInt),.int .i64 ((x1.cell 1).toInt),.list aa ((x1.cell 2).toList)])).set ((pivot:Int).toNat) (.agg [.int .i64 ((x2.cell 0).toInt),.int .i64 ((x2.cell 1).toInt),.list aa ((x2.cell 2).toList)]))[(eP:Int).toNat]?).bind fun Ff=>
       bif (decide (0≤ec))&&(decide (ec<((((ak.set ((a:Int).toNat) (.agg [.int .i64 ((x1.cell 0).toInt),.int .i64 ((x1.cell 1).toInt),.list aa ((x1.cell 2).toList)])).set ((pivot:Int).toNat) (.agg [.int .i64 ((x2.cell 0).toInt),.int .i64 ((x2.cell 1).toInt),.list aa ((x2.cell 2).toList)])).set ((eP:Int).toNat) (.agg [.int .i64 ((po.cell 0).toInt),.int .i64 ((po.cell 1).toInt),.list aa ((po.cell 2).toList)])).length:Int))) then
        ((((ak.set ((a:Int).toNat) (.agg [.int .i64 ((x1.cell 0).toInt),.int .i64 ((x1.cell 1).toInt),.list aa ((x1.cell 2).toList)])).set ((pivot:Int).toNat) (.agg [.int .i64 ((x2.cell 0).toInt),.int .i64 ((x2.cell 1).toInt),.list aa ((x2.cell 2).toList)])).set ((eP:Int).toNat) (.agg [.int .i64 ((po.cell 0).toInt),.int .i64 ((po.cell 1).toInt),.list aa ((po.cell 2).toList)]))[(ec:Int).toNat]?).bind fun x22=>
        (Loop (xt C a) (IntKind.wrap .i64 (eP+1),IntKind.wrap .i64 (ec-1),(((ak.set ((a:Int).toNat) (.agg [.int .i64 ((x1.cell 0).toInt),.int .i64 ((x1.cell 1).toInt),.list aa ((x1.cell 2).toList)])).set ((pivot:Int).toNat) (.agg [.int .i64 ((x2.cell 0).toInt),.int .i64 ((x2.cell 1).toInt),.list aa ((x2.cell 2).toList)])).set ((eP:Int).toNat) (.agg [.int .i64 ((po.cell 0).toInt),.int .i64 ((po.cell 1).toInt),.list aa ((po.cell 2).toList)])).set ((ec:Int).toNat) (.agg [.int .i64 ((uF.cell 0).toInt),.int .i64 ((uF.cell 1).toInt),.list aa ((uF.cell 2).toList)]))).bind (un fun (aan:Int)=>un fun (pr:Int)=>un fun (Qm:Bool) (jD:List V)=>
         bif (decide (0≤a))&&(decide (a<(jD.length:Int))) then
         (jD[(a:Int).toNat]?).bind fun ml=>
         bif (decide (0≤pr))&&(decide (pr<(jD.length:Int))) then
          (jD[(pr:Int).toNat]?).bind fun uG=>
          bif (decide (0≤pr))&&(decide (pr<(jD.length:Int))) then
          (jD[(pr:Int).toNat]?).bind fun x43=>
          bif (decide (0≤a))&&(decide (a<((jD.set ((pr:Int).toNat) (.agg [.int .i64 ((ml.cell 0).toInt),.int .i64 ((ml.cell 1).toInt),.list aa ((ml.cell 2).toList)])).length:Int))) then
           ((jD.set ((pr:Int).toNat) (.agg [.int .i64 ((ml.cell 0).toInt),.int .i64 ((ml.cell 1).toInt),.list aa ((ml.cell 2).toList)]))[(a:Int).toNat]?).bind fun x44=>
           some [.int .i64 pr,.bool false,.list aa ((jD.set ((pr:Int).toNat) (.agg [.int .i64 ((ml.cell 0).toInt),.int .i64 ((ml.cell 1).toInt),.list aa ((ml.cell 2).toList)])).set ((a:Int).toNat) (.agg [.int .i64 ((uG.cell 0).toInt),.int .i64 ((uG.cell 1).toInt),.list aa ((uG.cell 2).toList)]))]
          else none
          else none
         else none
         else none)
       else none
       else none
      else none
      else none))
   else none
  else none
  else none
 else none
theorem adu {a b' pivot:Int} {ak:List V} {r:Option (List V)} (h:RW CC a b' pivot ak=r):CC mW [.int .i64 a,.int .i64 b',.int .i64 pivot,.list aa ak]=r:=
 aY (key:=118) (L:=RV CC) (bs:=[.loop (aw [1,1,1,0,0,0] pq),.loop (aw [1,1,1,1,0,0,0] pq),.loop (aw [1,1,1,1,1,1,1,1,1,0,0,0] pq)]) (by kernel_rfl) (bG (adp CC) (bG (adq CC) (bG (adt CC) av))) (aW (by kernel_rfl) h)
noncomputable abbrev xu:Code:=cL Try.prog (ax.aX 117)
noncomputable def AQ (C:ag) (a j:Int) (ak:List V) (i:Int) {β:Type} (kn:Int→Option β) (kr:(Int × Bool)→Option β):Option β:=
 bif decide ((i:Int)≤j) then
  bif (decide (0≤a))&&(decide (a<(ak.length:Int))) then
  (ak[(a:Int).toNat]?).bind fun x5=>
  bif (decide (0≤i))&&(decide (i<(ak.length:Int))) then
   (ak[(i:Int).toNat]?).bind fun x6=>
   (C a9 [.int .i64 ((x5.cell 0).toInt),.int .i64 ((x5.cell 1).toInt),.list aa ((x5.cell 2).toList),.int .i64 ((x6.cell 0).toInt),.int .i64 ((x6.cell 1).toInt),.list aa ((x6.cell 2).toList)]).bind fun r7=>
   bif !(decide ((((V.nth r7 0).toInt):Int)<0)) then
   kn (IntKind.wrap .i64 (i+1))
   else
   kr (i,!(decide ((((V.nth r7 0).toInt):Int)<0)))
  else none
  else none
 else
  kr (i,false)
noncomputable def AR (C:ag) (a j:Int) (ak:List V):(Int)→Option ((Int) ⊕ (Int × Bool)):=fun i=>AQ C a j ak i (fun y=>some (.inl y)) (fun r=>some (.inr r))
noncomputable def xw (C:ag) (a i:Int) (ak:List V) (j:Int) {β:Type} (kn:Int→Option β) (kr:(Int × Bool)→Option β):Option β:=
 bif decide ((i:Int)≤j) then
  bif (decide (0≤a))&&(decide (a<(ak.length:Int))) then
  (ak[(a:Int).toNat]?).bind fun lu=>
  bif (decide (0≤j))&&(decide (j<(ak.length:Int))) then
   (ak[(j:Int).toNat]?).bind fun et=>
   (C a9 [.int .i64 ((lu.cell 0).toInt),.int .i64 ((lu.cell 1).toInt),.list aa ((lu.cell 2).toList),.int .i64 ((et.cell 0).toInt),.int .i64 ((et.cell 1).toInt),.list aa ((et.cell 2).toList)]).bind fun fD=>
   bif decide ((((V.nth fD 0).toInt):Int)<0) then
   kn (IntKind.wrap .i64 (j-1))
   else
   kr (j,decide ((((V.nth fD 0).toInt):Int)<0))
  else none
  else none
 else
  kr (j,false)
noncomputable def xx (C:ag) (a i:Int) (ak:List V):(Int)→Option ((Int) ⊕ (Int × Bool)):=fun j=>xw C a i ak j (fun y=>some (.inl y)) (fun r=>some (.inr r))
noncomputable def AS (C:ag) (a i j:Int) (ak:List V) {β:Type} (kn:(Int × Int × (List V))→Option β) (kr:(Int × Int × Bool × (List V))→Option β):Option β:=
 (Loop (AR C a j ak) i).bind (un fun (eP:Int) (sd:Bool)=>
  (Loop (xx C a eP ak) j).bind (un fun (ec:Int) (wS:Bool)=>
   bif decide ((eP:Int)>ec) then
    kr (eP,ec,decide ((eP:Int)>ec),ak)
   else
    bif (decide (0≤ec))&&(decide (ec<(ak.length:Int))) then
    (ak[(ec:Int).toNat]?).bind fun fE=>
    bif (decide (0≤eP))&&(decide (eP<(ak.length:Int))) then
     (ak[(eP:Int).toNat]?).bind fun gr=>
     bif (decide (0≤eP))&&(decide (eP<(ak.length:Int))) then
     (ak[(eP:Int).toNat]?).bind fun qJ=>
     bif (decide (0≤ec))&&(decide (ec<((ak.set ((eP:Int).toNat) (.agg [.int .i64 ((fE.cell 0).toInt),.int .i64 ((fE.cell 1).toInt),.list aa ((fE.cell 2).toList)])).length:Int))) then
      ((ak.set ((eP:Int).toNat) (.agg [.int .i64 ((fE.cell 0).toInt),.int .i64 ((fE.cell 1).toInt),.list aa ((fE.cell 2).toList)]))[(ec:Int).toNat]?).bind fun w6=>
      kn (IntKind.wrap .i64 (eP+1),IntKind.wrap .i64 (ec-1),(ak.set ((eP:Int).toNat) (.agg [.int .i64 ((fE.cell 0).toInt),.int .i64 ((fE.cell 1).toInt),.list aa ((fE.cell 2).toList)])).set ((ec:Int).toNat) (.agg [.int .i64 ((gr.cell 0).toInt),.int .i64 ((gr.cell 1).toInt),.list aa ((gr.cell 2).toList)]))
     else none
     else none
    else none
    else none))
noncomputable def xy (C:ag) (a:Int):(Int × Int × (List V))→Option ((Int × Int × (List V)) ⊕ (Int × Int × Bool × (List V))):=un fun i=>un fun j ak=>AS C a i j ak (fun y=>some (.inl y)) (fun r=>some (.inr r))
noncomputable def RX (C:ag):cB:=fun β n ds k=>
 bif Nat.beq n 49 then cj JP [false,true,false,false] [[1,0,3,0,4]] (@AQ C) ds k else
 bif Nat.beq n 81 then cj JQ [false,false,true,false] [[1,2,0,0,4]] (@xw C) ds k else
 bif Nat.beq n 50 then cj JR [false,true,true,true] [[1,0,0,0,0]] (@AS C) ds k else
 none
abbrev KJ (C:ag) (b:cx):Prop:=cy Try.prog ax C (RX C) 117 (cP Try.prog (ax.aX 117)) (ax.sin 117).a8.length b
theorem adv (C:ag):KJ C (.loop (aw [1,1,1,0,0,0,0,0,0,0] xu)):=
 cr JP [false,true,false,false] [[1,0,3,0,4]] (@AQ C) (by kernel_rfl) (bh (bs:=[]) (by kernel_rfl) av) (fun ds=>by kernel_rfl) (fun i x=>by kernel_rfl) (fun i x β k=>by kernel_rfl) (fun β ds k=>by kernel_rfl)
theorem adw (C:ag):KJ C (.loop (aw [1,1,1,0,0,0,0,1,0,0,0] xu)):=
 cr JQ [false,false,true,false] [[1,2,0,0,4]] (@xw C) (by kernel_rfl) (bh (bs:=[]) (by kernel_rfl) av) (fun ds=>by kernel_rfl) (fun i x=>by kernel_rfl) (fun i x β k=>by kernel_rfl) (fun β ds k=>by kernel_rfl)
theorem adx (C:ag):KJ C (.loop (aw [1,1,1,0,0,0] xu)):=
 cr JR [false,true,true,true] [[1,0,0,0,0]] (@AS C) (by kernel_rfl) (bh (bs:=[.loop (aw [1,1,1,0,0,0,0,0,0,0] xu),.loop (aw [1,1,1,0,0,0,0,1,0,0,0] xu)]) (by kernel_rfl) (bG (adv C) (bG (adw C) av))) (fun ds=>by kernel_rfl) (fun i x=>by kernel_rfl) (fun i x β k=>by kernel_rfl) (fun β ds k=>by kernel_rfl)
noncomputable def RY (C:ag) (a b' pivot:Int) (ak:List V):Option (List V):=
 bif (decide (0≤pivot))&&(decide (pivot<(ak.length:Int))) then
  (ak[(pivot:Int).toNat]?).bind fun x1=>
  bif (decide (0≤a))&&(decide (a<(ak.length:Int))) then
  (ak[(a:Int).toNat]?).bind fun x2=>
  bif (decide (0≤a))&&(decide (a<(ak.length:Int))) then
   (ak[(a:Int).toNat]?).bind fun x3=>
   bif (decide (0≤pivot))&&(decide (pivot<((ak.set ((a:Int).toNat) (.agg [.int .i64 ((x1.cell 0).toInt),.int .i64 ((x1.cell 1).toInt),.list aa ((x1.cell 2).toList)])).length:Int))) then
   ((ak.set ((a:Int).toNat) (.agg [.int .i64 ((x1.cell 0).toInt),.int .i64 ((x1.cell 1).toInt),.list aa ((x1.cell 2).toList)]))[(pivot:Int).toNat]?).bind fun x4=>
   (Loop (xy C a) (IntKind.wrap .i64 (a+1),IntKind.wrap .i64 (b'-1),(ak.set ((a:Int).toNat) (.agg [.int .i64 ((x1.cell 0).toInt),.int .i64 ((x1.cell 1).toInt),.list aa ((x1.cell 2).toList)])).set ((pivot:Int).toNat) (.agg [.int .i64 ((x2.cell 0).toInt),.int .i64 ((x2.cell 1).toInt),.list aa ((x2.cell 2).toList)]))).bind (un fun (ady:Int)=>un fun (aiM:Int)=>un fun (Ka:Bool) (adz:List V)=>
    some [.int .i64 ady,.list aa adz])
   else none
  else none
  else none
 else none
theorem adA {a b' pivot:Int} {ak:List V} {r:Option (List V)} (h:RY CC a b' pivot ak=r):CC ua [.int .i64 a,.int .i64 b',.int .i64 pivot,.list aa ak]=r:=
 aY (key:=117) (L:=RX CC) (bs:=[.loop (aw [1,1,1,0,0,0] xu)]) (by kernel_rfl) (bG (adx CC) av) (aW (by kernel_rfl) h)
noncomputable abbrev nh:Code:=cL Try.prog (ax.aX 116)
noncomputable def AT (C:ag) (a b' j:Int) (ak:List V) (i:Int) {β:Type} (kn:Int→Option β) (kr:(Int × Bool)→Option β):Option β:=
 bif decide ((i:Int)<b') then
  bif (decide (0≤i))&&(decide (i<(ak.length:Int))) then
  (ak[(i:Int).toNat]?).bind fun x1=>
  bif (decide (0≤(IntKind.wrap .i64 (i-1))))&&(decide ((IntKind.wrap .i64 (i-1))<(ak.length:Int))) then
   (ak[(IntKind.wrap .i64 (i-1):Int).toNat]?).bind fun x2=>
   (C a9 [.int .i64 ((x1.cell 0).toInt),.int .i64 ((x1.cell 1).toInt),.list aa ((x1.cell 2).toList),.int .i64 ((x2.cell 0).toInt),.int .i64 ((x2.cell 1).toInt),.list aa ((x2.cell 2).toList)]).bind fun r3=>
   bif !(decide ((((V.nth r3 0).toInt):Int)<0)) then
   kn (IntKind.wrap .i64 (i+1))
   else
   kr (i,!(decide ((((V.nth r3 0).toInt):Int)<0)))
  else none
  else none
 else
  kr (i,false)
noncomputable def AU (C:ag) (a b' j:Int) (ak:List V):(Int)→Option ((Int) ⊕ (Int × Bool)):=fun i=>AT C a b' j ak i (fun y=>some (.inl y)) (fun r=>some (.inr r))
noncomputable def AV (C:ag) (a b' i j j':Int) (ak:List V) {β:Type} (kn:(Int × (List V))→Option β) (kr:(Int × (List V))→Option β):Option β:=
 bif decide ((j':Int)≥1) then
  bif (decide (0≤j'))&&(decide (j'<(ak.length:Int))) then
  (ak[(j':Int).toNat]?).bind fun lu=>
  bif (decide (0≤(IntKind.wrap .i64 (j'-1))))&&(decide ((IntKind.wrap .i64 (j'-1))<(ak.length:Int))) then
   (ak[(IntKind.wrap .i64 (j'-1):Int).toNat]?).bind fun et=>
   (C a9 [.int .i64 ((lu.cell 0).toInt),.int .i64 ((lu.cell 1).toInt),.list aa ((lu.cell 2).toList),.int .i64 ((et.cell 0).toInt),.int .i64 ((et.cell 1).toInt),.list aa ((et.cell 2).toList)]).bind fun fD=>
   bif !(decide ((((V.nth fD 0).toInt):Int)<0)) then
   kr (j',ak)
   else
   bif (decide (0≤(IntKind.wrap .i64 (j'-1))))&&(decide ((IntKind.wrap .i64 (j'-1))<(ak.length:Int))) then
    (ak[(IntKind.wrap .i64 (j'-1):Int).toNat]?).bind fun jC=>
    bif (decide (0≤j'))&&(decide (j'<(ak.length:Int))) then
    (ak[(j':Int).toNat]?).bind fun nf=>
    bif (decide (0≤j'))&&(decide (j'<(ak.length:Int))) then
     (ak[(j':Int).toNat]?).bind fun fE=>
     bif (decide (0≤(IntKind.wrap .i64 (j'-1))))&&(decide ((IntKind.wrap .i64 (j'-1))<((ak.set ((j':Int).toNat) (.agg [.int .i64 ((jC.cell 0).toInt),.int .i64 ((jC.cell 1).toInt),.list aa ((jC.cell 2).toList)])).length:Int))) then
     ((ak.set ((j':Int).toNat) (.agg [.int .i64 ((jC.cell 0).toInt),.int .i64 ((jC.cell 1).toInt),.list aa ((jC.cell 2).toList)]))[(IntKind.wrap .i64 (j'-1):Int).toNat]?).bind fun gr=>
     kn (IntKind.wrap .i64 (j'-1),(ak.set ((j':Int).toNat) (.agg [.int .i64 ((jC.cell 0).toInt),.int .i64 ((jC.cell 1).toInt),.list aa ((jC.cell 2).toList)])).set ((IntKind.wrap .i64 (j'-1):Int).toNat) (.agg [.int .i64 ((nf.cell 0).toInt),.int .i64 ((nf.cell 1).toInt),.list aa ((nf.cell 2).toList)]))
     else none
    else none
    else none
   else none
  else none
  else none
 else
  kr (j',ak)
noncomputable def AW (C:ag) (a b' i j:Int):(Int × (List V))→Option ((Int × (List V)) ⊕ (Int × (List V))):=un fun j' ak=>AV C a b' i j j' ak (fun y=>some (.inl y)) (fun r=>some (.inr r))
noncomputable def Fg (C:ag) (a b' i j:Int) (t65:Bool) (ak:List V) {β:Type} (kr:(List V)→Option β):Option β:=
 bif t65 then
  (Loop (AW C a b' i j) (IntKind.wrap .i64 (i-1),ak)).bind (un fun (aiN:Int) (adB:List V)=>
   kr adB)
 else
  kr ak
noncomputable def AX (C:ag) (a b' i j j':Int) (ak:List V) {β:Type} (kn:(Int × (List V))→Option β) (kr:(Int × (List V))→Option β):Option β:=
 bif decide ((j':Int)<b') then
  bif (decide (0≤j'))&&(decide (j'<(ak.length:Int))) then
  (ak[(j':Int).toNat]?).bind fun uF=>
  bif (decide (0≤(IntKind.wrap .i64 (j'-1))))&&(decide ((IntKind.wrap .i64 (j'-1))<(ak.length:Int))) then
   (ak[(IntKind.wrap .i64 (j'-1):Int).toNat]?).bind fun Ff=>
   (C a9 [.int .i64 ((uF.cell 0).toInt),.int .i64 ((uF.cell 1).toInt),.list aa ((uF.cell 2).toList),.int .i64 ((Ff.cell 0).toInt),.int .i64 ((Ff.cell 1).toInt),.list aa ((Ff.cell 2).toList)]).bind fun ka=>
   bif !(decide ((((V.nth ka 0).toInt):Int)<0)) then
   kr (j',ak)
   else
   bif (decide (0≤(IntKind.wrap .i64 (j'-1))))&&(decide ((IntKind.wrap .i64 (j'-1))<(ak.length:Int))) then
    (ak[(IntKind.wrap .i64 (j'-1):Int).toNat]?).bind fun jA=>
    bif (decide (0≤j'))&&(decide (j'<(ak.length:Int))) then
    (ak[(j':Int).toNat]?).bind fun uC=>
    bif (decide (0≤j'))&&(decide (j'<(ak.length:Int))) then
     (ak[(j':Int).toNat]?).bind fun x25=>
     bif (decide (0≤(IntKind.wrap .i64 (j'-1))))&&(decide ((IntKind.wrap .i64 (j'-1))<((ak.set ((j':Int).toNat) (.agg [.int .i64 ((jA.cell 0).toInt),.int .i64 ((jA.cell 1).toInt),.list aa ((jA.cell 2).toList)])).length:Int))) then
     ((ak.set ((j':Int).toNat) (.agg [.int .i64 ((jA.cell 0).toInt),.int .i64 ((jA.cell 1).toInt),.list aa ((jA.cell 2).toList)]))[(IntKind.wrap .i64 (j'-1):Int).toNat]?).bind fun x26=>
     kn (IntKind.wrap .i64 (j'+1),(ak.set ((j':Int).toNat) (.agg [.int .i64 ((jA.cell 0).toInt),.int .i64 ((jA.cell 1).toInt),.list aa ((jA.cell 2).toList)])).set ((IntKind.wrap .i64 (j'-1):Int).toNat) (.agg [.int .i64 ((uC.cell 0).toInt),.int .i64 ((uC.cell 1).toInt),.list aa ((uC.cell 2).toList)]))
     else none
    else none
    else none
   else none
  else none
  else none
 else
  kr (j',ak)
noncomputable def AY (C:ag) (a b' i j:Int):(Int × (List V))→Option ((Int × (List V)) ⊕ (Int × (List V))):=un fun j' ak=>AX C a b' i j j' ak (fun y=>some (.inl y)) (fun r=>some (.inr r))
noncomputable def AZ (C:ag) (a b' i j:Int) (ak:List V) {β:Type} (kn:(Int × Int × (List V))→Option β) (kr:((Bool × (List V)) ⊕ (Int × Int × Bool × (List V)))→Option β):Option β:=
 bif decide ((j:Int)<5) then
  (Loop (AU C a b' j ak) i).bind (un fun (eZ:Int) (me:Bool)=>
   bif (eZ:Int)==b' then
   kr (.inl (true,ak))
   else
   bif decide (((IntKind.wrap .i64 (b'-a)):Int)<50) then
    kr (.inl (false,ak))
   else
    bif (decide (0≤(IntKind.wrap .i64 (eZ-1))))&&(decide ((IntKind.wrap .i64 (eZ-1))<(ak.length:Int))) then
    (ak[(IntKind.wrap .i64 (eZ-1):Int).toNat]?).bind fun x6=>
    bif (decide (0≤eZ))&&(decide (eZ<(ak.length:Int))) then
     (ak[(eZ:Int).toNat]?).bind fun x7=>
     bif (decide (0≤eZ))&&(decide (eZ<(ak.length:Int))) then
     (ak[(eZ:Int).toNat]?).bind fun x8=>
     bif (decide (0≤(IntKind.wrap .i64 (eZ-1))))&&(decide ((IntKind.wrap .i64 (eZ-1))<((ak.set ((eZ:Int).toNat) (.agg [.int .i64 ((x6.cell 0).toInt),.int .i64 ((x6.cell 1).toInt),.list aa ((x6.cell 2).toList)])).length:Int))) then
      ((ak.set ((eZ:Int).toNat) (.agg [.int .i64 ((x6.cell 0).toInt),.int .i64 ((x6.cell 1).toInt),.list aa ((x6.cell 2).toList)]))[(IntKind.wrap .i64 (eZ-1):Int).toNat]?).bind fun x9=>
      Fg C a b' eZ j (decide (((IntKind.wrap .i64 (eZ-a)):Int)≥2)) ((ak.set ((eZ:Int).toNat) (.agg [.int .i64 ((x6.cell 0).toInt),.int .i64 ((x6.cell 1).toInt),.list aa ((x6.cell 2).toList)])).set ((IntKind.wrap .i64 (eZ-1):Int).toNat) (.agg [.int .i64 ((x7.cell 0).toInt),.int .i64 ((x7.cell 1).toInt),.list aa ((x7.cell 2).toList)])) (fun (RZ:List V)=>
       bif decide (((IntKind.wrap .i64 (b'-eZ)):Int)≥2) then
       (Loop (AY C a b' eZ j) (IntKind.wrap .i64 (eZ+1),RZ)).bind (un fun (aiO:Int) (adC:List V)=>
        kn (eZ,IntKind.wrap .i64 (j+1),adC))
       else
       kn (eZ,IntKind.wrap .i64 (j+1),RZ))
     else none
     else none
    else none
    else none)
 else
  kr (.inr (i,j,decide ((j:Int)<5),ak))
noncomputable def sn (C:ag) (a b':Int):(Int × Int × (List V))→Option ((Int × Int × (List V)) ⊕ ((Bool × (List V)) ⊕ (Int × Int × Bool × (List V)))):=un fun i=>un fun j ak=>AZ C a b' i j ak (fun y=>some (.inl y)) (fun r=>some (.inr r))
noncomputable def R0 (C:ag):cB:=fun β n ds k=>
 bif Nat.beq n 81 then cj JK [false,false,true,false,false] [[1,2,0,4,0,5]] (@AT C) ds k else
 bif Nat.beq n 225 then cj JL [false,false,false,false,true,true] [[1,2,3,4,0,0]] (@AV C) ds k else
 bif Nat.beq n 1055 then iJ JM [[1,2,3,4,0]] (@Fg C) ds k else
 bif Nat.beq n 321 then cj JN [false,false,false,false,true,true] [[1,2,3,4,0,0]] (@AX C) ds k else
 bif Nat.beq n 49 then cj JO [false,false,true,true,true] [[0,0],[1,2,0,0,0,0]] (@AZ C) ds k else
 none
abbrev A0 (C:ag) (b:cx):Prop:=cy Try.prog ax C (R0 C) 116 (cP Try.prog (ax.aX 116)) (ax.sin 116).a8.length b
theorem adD (C:ag):A0 C (.loop (aw [1,1,0,1,0,0,1,0,0,0,0,0] nh)):=
 cr JK [false,false,true,false,false] [[1,2,0,4,0,5]] (@AT C) (by kernel_rfl) (bh (bs:=[]) (by kernel_rfl) av) (fun ds=>by kernel_rfl) (fun i x=>by kernel_rfl) (fun i x β k=>by kernel_rfl) (fun β ds k=>by kernel_rfl)
theorem adE (C:ag):A0 C (.loop (aw [1,1,0,1,0,0,1,0,0,1,1,1,1,0,1,0,1,0,0] nh)):=
 cr JL [false,false,false,false,true,true] [[1,2,3,4,0,0]] (@AV C) (by kernel_rfl) (bh (bs:=[]) (by kernel_rfl) av) (fun ds=>by kernel_rfl) (fun i x=>by kernel_rfl) (fun i x β k=>by kernel_rfl) (fun β ds k=>by kernel_rfl)
theorem adF (C:ag):A0 C (.cond 65 (aw [1,1,0,1,0,0,1,0,0,1,1,1,1,0,1,0] nh) (aw [1,1,0,1,0,0,1,0,0,1,1,1,1,0,1,1] nh)):=
 jb JM [[1,2,3,4,0]] (@Fg C) (by kernel_rfl) (bh (bs:=[.loop (aw [1,1,0,1,0,0,1,0,0,1,1,1,1,0,1,0,1,0,0] nh)]) (by kernel_rfl) (bG (adE C) av)) (bh (bs:=[]) (by kernel_rfl) av) (fun ds=>by kernel_rfl) (fun i β k=>by kernel_rfl) (fun β ds k=>by kernel_rfl)
theorem adG (C:ag):A0 C (.loop (aw [1,1,0,1,0,0,1,0,0,1,1,1,1,1,1,0,1,0,0] nh)):=
 cr JN [false,false,false,false,true,true] [[1,2,3,4,0,0]] (@AX C) (by kernel_rfl) (bh (bs:=[]) (by kernel_rfl) av) (fun ds=>by kernel_rfl) (fun i x=>by kernel_rfl) (fun i x β k=>by kernel_rfl) (fun β ds k=>by kernel_rfl)
theorem adH (C:ag):A0 C (.loop (aw [1,1,0,1,0,0] nh)):=
 cr JO [false,false,true,true,true] [[0,0],[1,2,0,0,0,0]] (@AZ C) (by kernel_rfl) (bh (bs:=[.loop (aw [1,1,0,1,0,0,1,0,0,0,0,0] nh),.cond 65 (aw [1,1,0,1,0,0,1,0,0,1,1,1,1,0,1,0] nh) (aw [1,1,0,1,0,0,1,0,0,1,1,1,1,0,1,1] nh),.loop (aw [1,1,0,1,0,0,1,0,0,1,1,1,1,1,1,0,1,0,0] nh)]) (by kernel_rfl) (bG (adD C) (bG (adF C) (bG (adG C) av)))) (fun ds=>by kernel_rfl) (fun i x=>by kernel_rfl) (fun i x β k=>by kernel_rfl) (fun β ds k=>by kernel_rfl)
noncomputable def R3 (C:ag) (a b':Int) (ak:List V):Option (List V):=
 (Loop (sn C a b') (IntKind.wrap .i64 (a+1),0,ak)).bind (bX (un fun (Qh:Bool) (adI:List V)=>
  some [.bool Qh,.list aa adI]) (un fun (aiP:Int)=>un fun (aiQ:Int)=>un fun (Qj:Bool) (adJ:List V)=>
  some [.bool false,.list aa adJ]))
theorem adK {a b':Int} {ak:List V} {r:Option (List V)} (h:R3 CC a b' ak=r):CC Ep [.int .i64 a,.int .i64 b',.list aa ak]=r:=
 aY (key:=116) (L:=R0 CC) (bs:=[.loop (aw [1,1,0,1,0,0] nh)]) (by kernel_rfl) (bG (adH CC) av) (aW (by kernel_rfl) h)
end Go.AM
set_option maxRecDepth 100000
set_option maxHeartbeats 4000000
namespace Go.AM.SX
open Go.Proofs Go.Sort
theorem xz (p:XE→Bool) (d:Array XE) (j i:Nat):scanUp p d j i=if i≤j then (if p d[i]! =true then scanUp p d j (i+1) else i) else i:=by
 conv=>lhs;rw[scanUp]
 by_cases h:i≤j
 ·rw[aj h];simp only[h,rh,lF]
 ·rw[ai h,ai (by simp[h])]
theorem KK (p:XE→Bool) (d:Array XE) (i j:Nat):scanDown p d i (j+1)=if i≤j+1 then (if p d[j+1]! =true then scanDown p d i j else j+1) else j+1:=by
 conv=>lhs;rw[scanDown]
 by_cases h:i≤j+1
 ·rw[aj h];simp only[h,rh,lF]
 ·rw[ai h,ai (by simp[h])]
theorem Fh (d:Array XE) (b i:Nat):scanSorted ay d b i=if i<b then (if bN d[i]! d[i-1]! <0 then i else scanSorted ay d b (i+1)) else i:=by
 conv=>lhs;rw[scanSorted]
 by_cases h:i<b
 ·rw[aj h];simp only[h,rh,lF,qL]
  by_cases U:bN d[i]! d[i-1]! <0
  ·rw[ai (pL U),aj U]
  ·rw[aj U,ai U]
 ·rw[ai h,ai (by simp[h])]
theorem R4 (j:Nat) (d:Array XE):shiftDown ay (j+1) d=if bN d[j+1]! d[j]! <0 then shiftDown ay j (swp d (j+1) j) else d:=by
 conv=>lhs;rw[shiftDown]
 simp only[qL]
 by_cases U:bN d[j+1]! d[j]! <0
 ·rw[ai (pL U),aj U]
 ·rw[aj U,ai U]
theorem Fi (b j:Nat) (d:Array XE):shiftUp ay b j d=if j<b then (if bN d[j]! d[j-1]! <0 then shiftUp ay b (j+1) (swp d j (j-1)) else d) else d:=by
 conv=>lhs;rw[shiftUp]
 simp only[qL]
 by_cases h:j<b
 ·rw[aj h,aj h]
  by_cases U:bN d[j]! d[j-1]! <0
  ·rw[ai (pL U),aj U]
  ·rw[aj U,ai U]
 ·rw[ai h,ai h]
theorem adL {a:Nat}: ∀(n i j:Nat) (d:Array XE),j+1-i≤n→(partLoop ay a i j d).2.size=d.size∧(partLoop ay a i j d).1≤j:=by
 intro n
 induction n with
 | zero=>
  intro i j d hn
  have h1:=scanUp_ge (fun x=>ay x d[a]!) d j i
  have U:=scanDown_le (fun x=> !ay x d[a]!) d (scanUp (fun x=>ay x d[a]!) d j i) j
  rw[partLoop_eq,aj (by omega)]
  exact ⟨rfl,U⟩
 | succ n ih=>
  intro i j d hn
  rw[partLoop_eq]
  have h1:=scanUp_ge (fun x=>ay x d[a]!) d j i
  have U:=scanDown_le (fun x=> !ay x d[a]!) d (scanUp (fun x=>ay x d[a]!) d j i) j
  split
  ·exact ⟨rfl,U⟩
  ·obtain ⟨h3,h4⟩:=ih (scanUp (fun x=>ay x d[a]!) d j i+1) (scanDown (fun x=> !ay x d[a]!) d (scanUp (fun x=>ay x d[a]!) d j i) j-1) (swp d (scanUp (fun x=>ay x d[a]!) d j i) (scanDown (fun x=> !ay x d[a]!) d (scanUp (fun x=>ay x d[a]!) d j i) j)) (by omega)
   exact ⟨by rw[h3,size_swp],by omega⟩
theorem kb {β:Type} {d:Array XE} {i:Nat} {x y:Option β} (h:i<d.size):(bif (decide (0≤(i:Int)))&&(decide ((i:Int)<((eA d).length:Int))) then x else y)=x:=by
 rw[fy,dj,aB,aj (by omega),aB,aj (by omega)]
theorem Fj {β:Type} {d:Array XE} {i k:Nat} {v:V} {x y:Option β} (h:i<d.size):(bif (decide (0≤(i:Int)))&&(decide ((i:Int)<(((eA d).set k v).length:Int))) then x else y)=x:=by
 rw[nz,fy,dj,aB,aj (by omega),aB,aj (by omega)]
theorem kf {β:Type} {d:Array XE} {i:Nat} {f:V→Option β} (h:i<d.size):((eA d)[(i:Int).toNat]?).bind f=f (d[i]!).enc:=by
 rw[Int.toNat_natCast,fB h];rfl
theorem Fk {β:Type} {d:Array XE} {i k:Nat} {v:V} {x:Option β} (h:i<d.size):(((eA d).set k v)[(i:Int).toNat]?).bind (fun _=>x)=x:=by
 rw[Int.toNat_natCast,bx (by rw[nz,fy];exact h)];rfl
theorem qN {β:Type} {d:Array XE} {i:Nat} {f:V→Option β} (h:i<d.size):((eA d)[i]?).bind f=f (d[i]!).enc:=by
 rw[fB h];rfl
theorem KL {β:Type} {d:Array XE} {i k:Nat} {v:V} {x:Option β} (h:i<d.size):(((eA d).set k v)[i]?).bind (fun _=>x)=x:=by
 rw[bx (by rw[nz,fy];exact h)];rfl
theorem adM {a j:Nat} {d:Array XE} (ha:a<d.size) (hj:j<d.size) (hs:d.size<1152921504606846976): ∀(n i:Nat),j+1-i=n→i≤d.size→
  ∃t,Loop (AK CC a j (eA d)) (i:Int)=some (((scanUp (fun x=>ay x d[a]!) d j i:Nat):Int),t):=by
 intro n
 induction n with
 | zero=>
  intro i hn hi
  rw[xz,ai (by omega)]
  exact ⟨false,bd (by simp (disch:=omega) only[AK,AJ,aB,ai])⟩
 | succ n ih=>
  intro i hn hi
  obtain ⟨t,h⟩:=ih (i+1) (by omega) (by omega)
  rw[xz,aj (by omega)]
  have e:AK CC a j (eA d) (i:Int)=if bN d[i]! d[a]! <0 then some (.inl ((i+1:Nat):Int)) else some (.inr ((i:Int),decide (bN d[i]! d[a]! <0))):=by
   simp (disch:=omega) only[AK,AJ,aB,dj,hX,aj,ai,wrap64,dB,fC,Int.toNat_natCast,Option.bind_some,fy,fB,XE.bn,XE.bp,XE.bq,XE.re,fA,ib,gz,gq,V.aR,V.toInt_int,cond_true,cond_false]
  simp only[sm]
  by_cases U:bN d[i]! d[a]! <0
  ·rw[aj U] at e
   rw[aj U]
   exact ⟨t,(bR e).trans h⟩
  ·rw[ai U] at e
   rw[ai U]
   exact ⟨_,bd e⟩
theorem R5 {a j:Nat} {d:Array XE} (ha:a<d.size) (hj:j<d.size) (hs:d.size<1152921504606846976): ∀(n i:Nat),j+1-i=n→i≤d.size→
  ∃t,Loop (AN CC a j (eA d)) (i:Int)=some (((scanUp (fun x=>ay x d[a]!) d j i:Nat):Int),t):=by
 intro n
 induction n with
 | zero=>
  intro i hn hi
  rw[xz,ai (by omega)]
  exact ⟨false,bd (by simp (disch:=omega) only[AN,AL,aB,ai])⟩
 | succ n ih=>
  intro i hn hi
  obtain ⟨t,h⟩:=ih (i+1) (by omega) (by omega)
  rw[xz,aj (by omega)]
  have e:AN CC a j (eA d) (i:Int)=if bN d[i]! d[a]! <0 then some (.inl ((i+1:Nat):Int)) else some (.inr ((i:Int),decide (bN d[i]! d[a]! <0))):=by
   simp (disch:=omega) only[AN,AL,aB,dj,hX,aj,ai,wrap64,dB,fC,Int.toNat_natCast,Option.bind_some,fy,fB,XE.bn,XE.bp,XE.bq,XE.re,fA,ib,gz,gq,V.aR,V.toInt_int,cond_true,cond_false]
  simp only[sm]
  by_cases U:bN d[i]! d[a]! <0
  ·rw[aj U] at e
   rw[aj U]
   exact ⟨t,(bR e).trans h⟩
  ·rw[ai U] at e
   rw[ai U]
   exact ⟨_,bd e⟩
theorem R6 {a i:Nat} {d:Array XE} (ha:a<d.size) (hi:1≤i) (hs:d.size<1152921504606846976): ∀(j:Nat),j<d.size→
  ∃t,Loop (xp CC a i (eA d)) (j:Int)=some (((scanDown (fun x=> !ay x d[a]!) d i j:Nat):Int),t)
 | 0,hj=>⟨false,bd (by simp (disch:=omega) only[xp,xo,aB,ai];rfl)⟩
 | j+1,hj=>by
  obtain ⟨t,h⟩:=R6 ha hi hs j (by omega)
  rw[KK]
  by_cases h1:i≤j+1
  ·rw[aj h1]
   have e:xp CC a i (eA d) ((j+1:Nat):Int)=if bN d[j+1]! d[a]! <0 then some (.inr (((j+1:Nat):Int),!decide (bN d[j+1]! d[a]! <0))) else some (.inl (j:Int)):=by
    simp (disch:=omega) only[xp,xo,aB,dj,hX,aj,ai,wrap64,dB,fC,Int.toNat_natCast,Option.bind_some,fy,fB,XE.bn,XE.bp,XE.bq,XE.re,fA,ib,gz,gq,V.aR,V.toInt_int,cond_true,cond_false,uA]
   simp only[qL]
   by_cases U:bN d[j+1]! d[a]! <0
   ·rw[aj U] at e
    rw[ai (pL U)]
    exact ⟨_,bd e⟩
   ·rw[ai U] at e
    rw[aj U]
    exact ⟨t,(bR e).trans h⟩
  ·rw[ai h1]
   exact ⟨false,bd (by simp (disch:=omega) only[xp,xo,aB,ai])⟩
theorem KM {a i:Nat} {d:Array XE} (ha:a<d.size) (hi:1≤i) (hs:d.size<1152921504606846976): ∀(j:Nat),j<d.size→
  ∃t,Loop (xr CC a i (eA d)) (j:Int)=some (((scanDown (fun x=> !ay x d[a]!) d i j:Nat):Int),t)
 | 0,hj=>⟨false,bd (by simp (disch:=omega) only[xr,xq,aB,ai];rfl)⟩
 | j+1,hj=>by
  obtain ⟨t,h⟩:=KM ha hi hs j (by omega)
  rw[KK]
  by_cases h1:i≤j+1
  ·rw[aj h1]
   have e:xr CC a i (eA d) ((j+1:Nat):Int)=if bN d[j+1]! d[a]! <0 then some (.inr (((j+1:Nat):Int),!decide (bN d[j+1]! d[a]! <0))) else some (.inl (j:Int)):=by
    simp (disch:=omega) only[xr,xq,aB,dj,hX,aj,ai,wrap64,dB,fC,Int.toNat_natCast,Option.bind_some,fy,fB,XE.bn,XE.bp,XE.bq,XE.re,fA,ib,gz,gq,V.aR,V.toInt_int,cond_true,cond_false,uA]
   simp only[qL]
   by_cases U:bN d[j+1]! d[a]! <0
   ·rw[aj U] at e
    rw[ai (pL U)]
    exact ⟨_,bd e⟩
   ·rw[ai U] at e
    rw[aj U]
    exact ⟨t,(bR e).trans h⟩
  ·rw[ai h1]
   exact ⟨false,bd (by simp (disch:=omega) only[xr,xq,aB,ai])⟩
theorem R7 {a j:Nat} {d:Array XE} (ha:a<d.size) (hj:j<d.size) (hs:d.size<1152921504606846976): ∀(n i:Nat),j+1-i=n→i≤d.size→
  ∃t,Loop (AR CC a j (eA d)) (i:Int)=some (((scanUp (fun x=> !ay d[a]! x) d j i:Nat):Int),t):=by
 intro n
 induction n with
 | zero=>
  intro i hn hi
  rw[xz,ai (by omega)]
  exact ⟨false,bd (by simp (disch:=omega) only[AR,AQ,aB,ai])⟩
 | succ n ih=>
  intro i hn hi
  obtain ⟨t,h⟩:=ih (i+1) (by omega) (by omega)
  rw[xz,aj (by omega)]
  have e:AR CC a j (eA d) (i:Int)=if bN d[a]! d[i]! <0 then some (.inr ((i:Int),!decide (bN d[a]! d[i]! <0))) else some (.inl ((i+1:Nat):Int)):=by
   simp (disch:=omega) only[AR,AQ,aB,dj,hX,aj,ai,wrap64,dB,fC,Int.toNat_natCast,Option.bind_some,fy,fB,XE.bn,XE.bp,XE.bq,XE.re,fA,ib,gz,gq,V.aR,V.toInt_int,cond_true,cond_false]
  simp only[qL]
  by_cases U:bN d[a]! d[i]! <0
  ·rw[aj U] at e
   rw[ai (pL U)]
   exact ⟨_,bd e⟩
  ·rw[ai U] at e
   rw[aj U]
   exact ⟨t,(bR e).trans h⟩
theorem KN {a i:Nat} {d:Array XE} (ha:a<d.size) (hi:1≤i) (hs:d.size<1152921504606846976): ∀(j:Nat),j<d.size→
  ∃t,Loop (xx CC a i (eA d)) (j:Int)=some (((scanDown (fun x=>ay d[a]! x) d i j:Nat):Int),t)
 | 0,hj=>⟨false,bd (by simp (disch:=omega) only[xx,xw,aB,ai];rfl)⟩
 | j+1,hj=>by
  obtain ⟨t,h⟩:=KN ha hi hs j (by omega)
  rw[KK]
  by_cases h1:i≤j+1
  ·rw[aj h1]
   have e:xx CC a i (eA d) ((j+1:Nat):Int)=if bN d[a]! d[j+1]! <0 then some (.inl (j:Int)) else some (.inr (((j+1:Nat):Int),decide (bN d[a]! d[j+1]! <0))):=by
    simp (disch:=omega) only[xx,xw,aB,dj,hX,aj,ai,wrap64,dB,fC,Int.toNat_natCast,Option.bind_some,fy,fB,XE.bn,XE.bp,XE.bq,XE.re,fA,ib,gz,gq,V.aR,V.toInt_int,cond_true,cond_false,uA]
   simp only[sm]
   by_cases U:bN d[a]! d[j+1]! <0
   ·rw[aj U] at e
    rw[aj U]
    exact ⟨t,(bR e).trans h⟩
   ·rw[ai U] at e
    rw[ai U]
    exact ⟨_,bd e⟩
  ·rw[ai h1]
   exact ⟨false,bd (by simp (disch:=omega) only[xx,xw,aB,ai])⟩
theorem adN {a:Nat}: ∀(n i j:Nat) (d:Array XE),j+1-i≤n→1≤i→i≤d.size→a<d.size→j<d.size→d.size<1152921504606846976→
  ∃x z,Loop (xt CC a) ((i:Int),(j:Int),eA d)=some (x,(((partLoop ay a i j d).1:Nat):Int),z,eA (partLoop ay a i j d).2):=by
 intro n
 induction n with
 | zero=>
  intro i j d hn h1 U ha hj hs
  obtain ⟨t3,e3⟩:=R5 (a:=a) ha hj hs _ i rfl U
  have g1:=scanUp_ge (fun x=>ay x d[a]!) d j i
  have g2:=scanDown_le (fun x=> !ay x d[a]!) d (scanUp (fun x=>ay x d[a]!) d j i) j
  obtain ⟨t4,e4⟩:=KM (a:=a) (i:=scanUp (fun x=>ay x d[a]!) d j i) ha (by omega) hs j hj
  rw[partLoop_eq,aj (by omega)]
  refine ⟨((scanUp (fun x=>ay x d[a]!) d j i:Nat):Int),true,bd ?_⟩
  simp only[xt,AO,un]
  rw[e3]
  simp only[Option.bind_some,un]
  rw[e4]
  simp (disch:=omega) only[Option.bind_some,un,m9,cond_true]
 | succ n ih=>
  intro i j d hn h1 U ha hj hs
  obtain ⟨t3,e3⟩:=R5 (a:=a) ha hj hs _ i rfl U
  have g1:=scanUp_ge (fun x=>ay x d[a]!) d j i
  have g2:=scanDown_le (fun x=> !ay x d[a]!) d (scanUp (fun x=>ay x d[a]!) d j i) j
  obtain ⟨t4,e4⟩:=KM (a:=a) (i:=scanUp (fun x=>ay x d[a]!) d j i) ha (by omega) hs j hj
  rw[partLoop_eq]
  have f:xt CC a ((i:Int),(j:Int),eA d)=xt CC a ((i:Int),(j:Int),eA d):=rfl
  conv at f=>rhs;simp only[xt,AO,un];rw[e3];simp only[Option.bind_some,un];rw[e4];simp only[Option.bind_some,un]
  generalize gG:scanUp (fun x=>ay x d[a]!) d j i=i2 at*
  generalize fM:scanDown (fun x=> !ay x d[a]!) d i2 j=j2 at*
  by_cases h:i2>j2
  ·rw[aj h]
   refine ⟨(i2:Int),true,bd (f.trans ?_)⟩
   simp (disch:=omega) only[Option.bind_some,m9,cond_true]
  ·rw[ai h]
   obtain ⟨x,z,e⟩:=ih (i2+1) (j2-1) (swp d i2 j2) (by omega) (by omega) (by rw[size_swp];omega) (by rw[size_swp];omega) (by rw[size_swp];omega) (by rw[size_swp];omega)
   refine ⟨x,z,(bR (f.trans ?_)).trans e⟩
   simp (disch:=omega) only[aB,dj,hX,aj,ai,wrap64,dB,fC,Int.toNat_natCast,Option.bind_some,fy,fB,XE.bn,XE.bp,XE.bq,XE.re,fA,ib,gz,gq,V.aR,V.toInt_int,cond_true,cond_false,j9]
   rfl
theorem adO (d:Array XE) (a b pivot:Nat):partition ay d a b pivot=
  if scanUp (fun x=>ay x (swp d a pivot)[a]!) (swp d a pivot) (b-1) (a+1)>scanDown (fun x=> !ay x (swp d a pivot)[a]!) (swp d a pivot) (scanUp (fun x=>ay x (swp d a pivot)[a]!) (swp d a pivot) (b-1) (a+1)) (b-1) then
   (scanDown (fun x=> !ay x (swp d a pivot)[a]!) (swp d a pivot) (scanUp (fun x=>ay x (swp d a pivot)[a]!) (swp d a pivot) (b-1) (a+1)) (b-1),true,swp (swp d a pivot) (scanDown (fun x=> !ay x (swp d a pivot)[a]!) (swp d a pivot) (scanUp (fun x=>ay x (swp d a pivot)[a]!) (swp d a pivot) (b-1) (a+1)) (b-1)) a)
  else
   ((partLoop ay a (scanUp (fun x=>ay x (swp d a pivot)[a]!) (swp d a pivot) (b-1) (a+1)+1) (scanDown (fun x=> !ay x (swp d a pivot)[a]!) (swp d a pivot) (scanUp (fun x=>ay x (swp d a pivot)[a]!) (swp d a pivot) (b-1) (a+1)) (b-1)-1) (swp (swp d a pivot) (scanUp (fun x=>ay x (swp d a pivot)[a]!) (swp d a pivot) (b-1) (a+1)) (scanDown (fun x=> !ay x (swp d a pivot)[a]!) (swp d a pivot) (scanUp (fun x=>ay x (swp d a pivot)[a]!) (swp d a pivot) (b-1) (a+1)) (b-1)))).1,false,
    swp (partLoop ay a (scanUp (fun x=>ay x (swp d a pivot)[a]!) (swp d a pivot) (b-1) (a+1)+1) (scanDown (fun x=> !ay x (swp d a pivot)[a]!) (swp d a pivot) (scanUp (fun x=>ay x (swp d a pivot)[a]!) (swp d a pivot) (b-1) (a+1)) (b-1)-1) (swp (swp d a pivot) (scanUp (fun x=>ay x (swp d a pivot)[a]!) (swp d a pivot) (b-1) (a+1)) (scanDown (fun x=> !ay x (swp d a pivot)[a]!) (swp d a pivot) (scanUp (fun x=>ay x (swp d a pivot)[a]!) (swp d a pivot) (b-1) (a+1)) (b-1)))).2
    (partLoop ay a (scanUp (fun x=>ay x (swp d a pivot)[a]!) (swp d a pivot) (b-1) (a+1)+1) (scanDown (fun x=> !ay x (swp d a pivot)[a]!) (swp d a pivot) (scanUp (fun x=>ay x (swp d a pivot)[a]!) (swp d a pivot) (b-1) (a+1)) (b-1)-1) (swp (swp d a pivot) (scanUp (fun x=>ay x (swp d a pivot)[a]!) (swp d a pivot) (b-1) (a+1)) (scanDown (fun x=> !ay x (swp d a pivot)[a]!) (swp d a pivot) (scanUp (fun x=>ay x (swp d a pivot)[a]!) (swp d a pivot) (b-1) (a+1)) (b-1)))).1 a):=rfl
theorem xA (d:Array XE) (i j:Nat):eA ((d.setIfInBounds i d[j]!).setIfInBounds j d[i]!)=eA (swp d i j):=rfl
theorem adP {a b pivot:Nat} {d:Array XE} (hp:pivot<b) (eV:a<b) (hb:b≤d.size) (hs:d.size<1152921504606846976):
  CC mW [.int .i64 (a:Int),.int .i64 (b:Int),.int .i64 (pivot:Int),.list aa (eA d)]=
   some [.int .i64 ((partition ay d a b pivot).1:Int),.bool (partition ay d a b pivot).2.1,.list aa (eA (partition ay d a b pivot).2.2)]:=by
 refine adu ?_
 unfold RW
 have z1:(swp d a pivot).size=d.size:=size_swp ..
 obtain ⟨t1,e1⟩:=adM (a:=a) (j:=b-1) (d:=swp d a pivot) (by omega) (by omega) (by omega) _ (a+1) rfl (by omega)
 have g1:=scanUp_ge (fun x=>ay x (swp d a pivot)[a]!) (swp d a pivot) (b-1) (a+1)
 have g2:=scanDown_le (fun x=> !ay x (swp d a pivot)[a]!) (swp d a pivot) (scanUp (fun x=>ay x (swp d a pivot)[a]!) (swp d a pivot) (b-1) (a+1)) (b-1)
 obtain ⟨t2,e2⟩:=R6 (a:=a) (i:=scanUp (fun x=>ay x (swp d a pivot)[a]!) (swp d a pivot) (b-1) (a+1)) (d:=swp d a pivot) (by omega) (by omega) (by omega) (b-1) (by omega)
 have e0:=adO d a b pivot
 rw[kb (i:=pivot) (by omega),kf (by omega),kb (i:=a) (by omega),kf (by omega),kb (i:=a) (by omega),kf (by omega),Fj (i:=pivot) (by omega),Fk (by omega)]
 simp only[XE.bn,XE.bp,XE.bq,XE.re,Int.toNat_natCast,fA,xA]
 simp (disch:=omega) only[j9,dB,wrap64]
 rw[e1]
 simp only[Option.bind_some,un]
 rw[e2]
 simp only[Option.bind_some,un]
 generalize gG:scanUp (fun x=>ay x (swp d a pivot)[a]!) (swp d a pivot) (b-1) (a+1)=i2 at*
 generalize fM:scanDown (fun x=> !ay x (swp d a pivot)[a]!) (swp d a pivot) i2 (b-1)=j2 at*
 generalize swp d a pivot=d1 at*
 by_cases h:i2>j2
 ·rw[aj h] at e0
  rw[e0,aB,aj (by omega)]
  rw[kb (i:=a) (by omega)];(first|rw[kf (by omega)]|rw[qN (by omega)]);rw[kb (i:=j2) (by omega)];(first|rw[kf (by omega)]|rw[qN (by omega)]);rw[kb (i:=j2) (by omega)];(first|rw[kf (by omega)]|rw[qN (by omega)]);rw[Fj (i:=a) (by omega)];(first|rw[Fk (by omega)]|rw[KL (by omega)])
  simp only[XE.bn,XE.bp,XE.bq,XE.re,Int.toNat_natCast,fA,xA]
 ·rw[ai h] at e0
  rw[e0,aB,ai (by omega)]
  have z2:(swp d1 i2 j2).size=d1.size:=size_swp ..
  obtain ⟨x,z,e5⟩:=adN (a:=a) _ (i2+1) (j2-1) (swp d1 i2 j2) (cf _) (by omega) (by omega) (by omega) (by omega) (by omega)
  obtain ⟨q1,q2⟩:=adL (a:=a) _ (i2+1) (j2-1) (swp d1 i2 j2) (cf _)
  rw[kb (i:=j2) (by omega)];(first|rw[kf (by omega)]|rw[qN (by omega)]);rw[kb (i:=i2) (by omega)];(first|rw[kf (by omega)]|rw[qN (by omega)]);rw[kb (i:=i2) (by omega)];(first|rw[kf (by omega)]|rw[qN (by omega)]);rw[Fj (i:=j2) (by omega)];(first|rw[Fk (by omega)]|rw[KL (by omega)])
  simp only[XE.bn,XE.bp,XE.bq,XE.re,Int.toNat_natCast,fA,xA]
  simp (disch:=omega) only[j9,dB,wrap64]
  rw[e5]
  generalize partLoop ay a (i2+1) (j2-1) (swp d1 i2 j2)=r at*
  simp only[Option.bind_some,un]
  rw[kb (i:=a) (by omega)];(first|rw[kf (by omega)]|rw[qN (by omega)]);rw[kb (i:=r.1) (by omega)];(first|rw[kf (by omega)]|rw[qN (by omega)]);rw[kb (i:=r.1) (by omega)];(first|rw[kf (by omega)]|rw[qN (by omega)]);rw[Fj (i:=a) (by omega)];(first|rw[Fk (by omega)]|rw[KL (by omega)])
  simp only[XE.bn,XE.bp,XE.bq,XE.re,Int.toNat_natCast,fA,xA]
theorem adQ {a:Nat}: ∀(n i j:Nat) (d:Array XE),j+1-i≤n→1≤i→i≤d.size→a<d.size→j<d.size→d.size<1152921504606846976→
  ∃x z,Loop (xy CC a) ((i:Int),(j:Int),eA d)=some ((((partEqLoop ay a i j d).1:Nat):Int),x,z,eA (partEqLoop ay a i j d).2):=by
 intro n
 induction n with
 | zero=>
  intro i j d hn h1 U ha hj hs
  obtain ⟨t3,e3⟩:=R7 (a:=a) ha hj hs _ i rfl U
  have g1:=scanUp_ge (fun x=> !ay d[a]! x) d j i
  have g2:=scanDown_le (fun x=>ay d[a]! x) d (scanUp (fun x=> !ay d[a]! x) d j i) j
  obtain ⟨t4,e4⟩:=KN (a:=a) (i:=scanUp (fun x=> !ay d[a]! x) d j i) ha (by omega) hs j hj
  rw[partEqLoop_eq,aj (by omega)]
  refine ⟨((scanDown (fun x=>ay d[a]! x) d (scanUp (fun x=> !ay d[a]! x) d j i) j:Nat):Int),true,bd ?_⟩
  simp only[xy,AS,un]
  rw[e3]
  simp only[Option.bind_some,un]
  rw[e4]
  simp (disch:=omega) only[Option.bind_some,un,m9,cond_true]
 | succ n ih=>
  intro i j d hn h1 U ha hj hs
  obtain ⟨t3,e3⟩:=R7 (a:=a) ha hj hs _ i rfl U
  have g1:=scanUp_ge (fun x=> !ay d[a]! x) d j i
  have g2:=scanDown_le (fun x=>ay d[a]! x) d (scanUp (fun x=> !ay d[a]! x) d j i) j
  obtain ⟨t4,e4⟩:=KN (a:=a) (i:=scanUp (fun x=> !ay d[a]! x) d j i) ha (by omega) hs j hj
  rw[partEqLoop_eq]
  have f:xy CC a ((i:Int),(j:Int),eA d)=xy CC a ((i:Int),(j:Int),eA d):=rfl
  conv at f=>rhs;simp only[xy,AS,un];rw[e3];simp only[Option.bind_some,un];rw[e4];simp only[Option.bind_some,un]
  generalize gG:scanUp (fun x=> !ay d[a]! x) d j i=i2 at*
  generalize fM:scanDown (fun x=>ay d[a]! x) d i2 j=j2 at*
  by_cases h:i2>j2
  ·rw[aj h]
   refine ⟨(j2:Int),true,bd (f.trans ?_)⟩
   simp (disch:=omega) only[Option.bind_some,m9,cond_true]
  ·rw[ai h]
   obtain ⟨x,z,e⟩:=ih (i2+1) (j2-1) (swp d i2 j2) (by omega) (by omega) (by rw[size_swp];omega) (by rw[size_swp];omega) (by rw[size_swp];omega) (by rw[size_swp];omega)
   refine ⟨x,z,(bR (f.trans ?_)).trans e⟩
   simp (disch:=omega) only[aB,dj,hX,aj,ai,wrap64,dB,fC,Int.toNat_natCast,Option.bind_some,fy,fB,XE.bn,XE.bp,XE.bq,XE.re,fA,ib,gz,gq,V.aR,V.toInt_int,cond_true,cond_false,j9]
   rfl
theorem adR {a b pivot:Nat} {d:Array XE} (hp:pivot<b) (eV:a<b) (hb:b≤d.size) (hs:d.size<1152921504606846976):
  CC ua [.int .i64 (a:Int),.int .i64 (b:Int),.int .i64 (pivot:Int),.list aa (eA d)]=
   some [.int .i64 ((partitionEqual ay d a b pivot).1:Int),.list aa (eA (partitionEqual ay d a b pivot).2)]:=by
 refine adA ?_
 unfold RY
 have z1:(swp d a pivot).size=d.size:=size_swp ..
 obtain ⟨x,z,e⟩:=adQ (a:=a) _ (a+1) (b-1) (swp d a pivot) (cf _) (by omega) (by omega) (by omega) (by omega) (by omega)
 simp (disch:=omega) only[aB,dj,aj,fy,fB,Int.toNat_natCast,Option.bind_some,XE.bn,XE.bp,XE.bq,XE.re,fA,ib,gz,j9,dB,wrap64,xA]
 rw[e]
 rfl
theorem adS {a b j:Nat} {d:Array XE} (hb:b≤d.size) (hs:d.size<1152921504606846976): ∀(n i:Nat),b-i=n→1≤i→i≤b→
  ∃t,Loop (AU CC a b j (eA d)) (i:Int)=some (((scanSorted ay d b i:Nat):Int),t):=by
 intro n
 induction n with
 | zero=>
  intro i hn h1 hi
  rw[Fh,ai (by omega)]
  exact ⟨false,bd (by simp (disch:=omega) only[AU,AT,aB,ai])⟩
 | succ n ih=>
  intro i hn h1 hi
  obtain ⟨t,h⟩:=ih (i+1) (by omega) (by omega) (by omega)
  rw[Fh,aj (by omega)]
  have e:AU CC a b j (eA d) (i:Int)=if bN d[i]! d[i-1]! <0 then some (.inr ((i:Int),!decide (bN d[i]! d[i-1]! <0))) else some (.inl ((i+1:Nat):Int)):=by
   simp (disch:=omega) only[AU,AT,j9,aB,dj,hX,aj,ai,wrap64,dB,fC,Int.toNat_natCast,Option.bind_some,fy,fB,XE.bn,XE.bp,XE.bq,XE.re,fA,ib,gz,gq,V.aR,V.toInt_int,cond_true,cond_false]
  by_cases U:bN d[i]! d[i-1]! <0
  ·rw[aj U] at e⊢
   exact ⟨_,bd e⟩
  ·rw[ai U] at e⊢
   exact ⟨t,(bR e).trans h⟩
theorem R8: ∀(j:Nat) (d:Array XE),(shiftDown ay j d).size=d.size
 | 0,_=>rfl
 | j+1,d=>by
  rw[R4]
  split
  ·rw[R8 j,size_swp]
  ·rfl
theorem adT {b:Nat}: ∀(n j:Nat) (d:Array XE),b-j=n→(shiftUp ay b j d).size=d.size:=by
 intro n
 induction n with
 | zero=>intro j d h;rw[Fi,ai (by omega)]
 | succ n ih=>
  intro j d h
  rw[Fi,aj (by omega)]
  split
  ·rw[ih _ _ (by omega),size_swp]
  ·rfl
theorem R9 {a b i k:Nat}: ∀(j:Nat) (d:Array XE),j<d.size→d.size<1152921504606846976→
  ∃t,Loop (AW CC a b i k) ((j:Int),eA d)=some (t,eA (shiftDown ay j d))
 | 0,d,hj,hs=>⟨(0:Nat),bd (by
   simp (disch:=omega) only[AW,AV,un,aB,ai]
   rfl)⟩
 | j+1,d,hj,hs=>by
  obtain ⟨t,ih⟩:=R9 (a:=a) (b:=b) (i:=i) (k:=k) j (swp d (j+1) j) (by rw[size_swp];omega) (by rw[size_swp];omega)
  rw[R4]
  have e:AW CC a b i k (((j+1:Nat):Int),eA d)=if bN d[j+1]! d[j]! <0 then some (.inl ((j:Int),eA (swp d (j+1) j))) else some (.inr (((j+1:Nat):Int),eA d)):=by
   simp (disch:=omega) only[AW,AV,un,aB,dj,hX,aj,ai,wrap64,dB,fC,Int.toNat_natCast,Option.bind_some,fy,fB,XE.bn,XE.bp,XE.bq,XE.re,fA,ib,gz,gq,V.aR,V.toInt_int,cond_true,cond_false,uA]
   rfl
  by_cases U:bN d[j+1]! d[j]! <0
  ·rw[aj U] at e⊢
   exact ⟨t,(bR e).trans ih⟩
  ·rw[ai U] at e⊢
   exact ⟨_,bd e⟩
theorem adU {a b i k:Nat}: ∀(n j:Nat) (d:Array XE),b-j=n→1≤j→j≤b→b≤d.size→d.size<1152921504606846976→
  ∃t,Loop (AY CC a b i k) ((j:Int),eA d)=some (t,eA (shiftUp ay b j d)):=by
 intro n
 induction n with
 | zero=>
  intro j d hn h1 hj hb hs
  rw[Fi,ai (by omega)]
  exact ⟨(j:Int),bd (by
   simp (disch:=omega) only[AY,AX,un,aB,ai])⟩
 | succ n ih=>
  intro j d hn h1 hj hb hs
  obtain ⟨t,h⟩:=ih (j+1) (swp d j (j-1)) (by omega) (by omega) (by omega) (by rw[size_swp];omega) (by rw[size_swp];omega)
  rw[Fi,aj (by omega)]
  have e:AY CC a b i k ((j:Int),eA d)=if bN d[j]! d[j-1]! <0 then some (.inl (((j+1:Nat):Int),eA (swp d j (j-1)))) else some (.inr ((j:Int),eA d)):=by
   simp (disch:=omega) only[AY,AX,un,j9,aB,dj,hX,aj,ai,wrap64,dB,fC,Int.toNat_natCast,Option.bind_some,fy,fB,XE.bn,XE.bp,XE.bq,XE.re,fA,ib,gz,gq,V.aR,V.toInt_int,cond_true,cond_false]
   rfl
  by_cases U:bN d[j]! d[j-1]! <0
  ·rw[aj U] at e⊢
   exact ⟨t,(bR e).trans h⟩
  ·rw[ai U] at e⊢
   exact ⟨_,bd e⟩
theorem adV {d:Array XE} {b:Nat}: ∀(n i:Nat),b-i=n→i≤b→i≤scanSorted ay d b i∧scanSorted ay d b i≤b:=by
 intro n
 induction n with
 | zero=>intro i hn hi;rw[Fh,ai (by omega)];omega
 | succ n ih=>
  intro i hn hi
  rw[Fh,aj (by omega)]
  obtain ⟨h1,U⟩:=ih (i+1) (by omega) (by omega)
  split<;>omega
theorem adW {a b:Nat}: ∀(s i:Nat) (d:Array XE),s≤5→a<i→i≤b→b≤d.size→d.size<1152921504606846976→
  (Loop (sn CC a b) ((i:Int),((5-s:Nat):Int),eA d)=some (.inl ((partialIns ay a b s i d).2,eA (partialIns ay a b s i d).1)))∨
  (∃x y z,(partialIns ay a b s i d).2=false∧Loop (sn CC a b) ((i:Int),((5-s:Nat):Int),eA d)=some (.inr (x,y,z,eA (partialIns ay a b s i d).1))):=by
 intro s
 induction s with
 | zero=>
  intro i d hs5 hi KO hb hs
  refine .inr ⟨(i:Int),((5:Nat):Int),false,rfl,bd ?_⟩
  simp (disch:=omega) only[sn,AZ,un,sj,cond_false]
  rfl
 | succ s ih=>
  intro i d hs5 hi KO hb hs
  obtain ⟨t1,e1⟩:=adS (a:=a) (j:=5-(s+1)) hb hs _ i rfl (by omega) KO
  obtain ⟨q1,q2⟩:=adV (d:=d) _ i rfl KO
  rw[partialIns_succ]
  have f:sn CC a b ((i:Int),((5-(s+1):Nat):Int),eA d)=sn CC a b ((i:Int),((5-(s+1):Nat):Int),eA d):=rfl
  conv at f=>rhs;simp only[sn,AZ,un];rw[aB,aj (by omega),e1];simp only[Option.bind_some,un]
  generalize scanSorted ay d b i=k at*
  by_cases h1:k=b
  ·rw[aj h1]
   left
   refine bd (f.trans ?_)
   rw[eL,aj (by omega)]
  ·rw[ai h1]
   by_cases U:b-a<50
   ·rw[aj U]
    left
    refine bd (f.trans ?_)
    rw[eL,ai (by omega),wrap64 (by omega) (by omega),aB,aj (by omega)]
   ·rw[ai U]
    have z1:(swp d k (k-1)).size=d.size:=size_swp ..
    have z2:(fixDown ay a k (swp d k (k-1))).size=d.size:=by
     unfold fixDown
     split
     ·rw[R8,z1]
     ·exact z1
    have z3:(fixUp ay b k (fixDown ay a k (swp d k (k-1)))).size=d.size:=by
     unfold fixUp
     split
     ·rw[adT _ _ _ rfl,z2]
     ·exact z2
    obtain ⟨t2,e2⟩:=R9 (a:=a) (b:=b) (i:=k) (k:=5-(s+1)) (k-1) (swp d k (k-1)) (by omega) (by omega)
    obtain ⟨t4,e4⟩:=adU (a:=a) (b:=b) (i:=k) (k:=5-(s+1)) _ (k+1) (fixDown ay a k (swp d k (k-1))) rfl (by omega) (by omega) (by omega) (by omega)
    have e5:sn CC a b ((i:Int),((5-(s+1):Nat):Int),eA d)=some (.inl ((k:Int),((5-s:Nat):Int),eA (fixUp ay b k (fixDown ay a k (swp d k (k-1)))))):=by
     refine f.trans ?_
     rw[eL,ai (by omega),wrap64 (by omega) (by omega),aB,ai (by omega)]
     simp (disch:=omega) only[aB,dj,aj,fy,fB,Int.toNat_natCast,Option.bind_some,XE.bn,XE.bp,XE.bq,XE.re,fA,ib,gz,j9,dB,mi,wrap64,xA,Fg]
     rw[show 5-(s+1)+1=5-s by omega]
     unfold fixDown at e4⊢
     unfold fixUp
     have c1:(((k-a:Nat):Int)≥2)=(k-a≥2):=propext (by omega)
     have c2:(((b-k:Nat):Int)≥2)=(b-k≥2):=propext (by omega)
     simp only[c1,c2]
     by_cases g1:k-a≥2
     ·by_cases g2:b-k≥2
      ·simp only[g1,g2,dm,e2,Option.bind_some,un] at e4⊢
       rw[e4]
       rfl
      ·simp only[g1,g2,dm,gv,e2,Option.bind_some,un]
     ·by_cases g2:b-k≥2
      ·simp only[g1,g2,dm,gv] at e4⊢
       rw[e4]
       rfl
      ·exact absurd (show b-k≥2 by omega) g2
    rw[bR e5]
    exact ih k _ (by omega) (by omega) (by omega) (by omega) (by omega)
theorem Sa {a b:Nat} {d:Array XE} (eV:a<b) (hb:b≤d.size) (hs:d.size<1152921504606846976):
  CC Ep [.int .i64 (a:Int),.int .i64 (b:Int),.list aa (eA d)]=
   some [.bool (partialInsertionSort ay d a b).2,.list aa (eA (partialInsertionSort ay d a b).1)]:=by
 refine adK ?_
 unfold R3
 simp (disch:=omega) only[dB,wrap64]
 rcases adW (a:=a) (b:=b) 5 (a+1) d (cf _) (by omega) (by omega) hb hs with h|⟨x,y,z,h0,h⟩
 ·rw[show ((5-5:Nat):Int)=0 from rfl] at h
  rw[h]
  rfl
 ·rw[show ((5-5:Nat):Int)=0 from rfl] at h
  rw[h]
  unfold partialInsertionSort
  rw[h0]
  rfl
end Go.AM.SX
set_option maxRecDepth 100000
namespace Go.AM
open Go.Proofs
noncomputable abbrev sq:Code:=cL Try.prog (ax.aX 114)
noncomputable def A1 (C:ag) (data:List V) (i j k':Int) (t36:Bool) (gN:Int) {β:Type} (kr:(Int × Int × Int × Int)→Option β):Option β:=
 bif t36 then
  (C wI [.list aa data,.int .i64 i,.int .i64 gN]).bind fun r1=>
  (C wI [.list aa data,.int .i64 j,.int .i64 ((V.nth (r1.drop 1) 0).toInt)]).bind fun r2=>
  (C wI [.list aa data,.int .i64 k',.int .i64 ((V.nth (r2.drop 1) 0).toInt)]).bind fun r3=>
  kr ((V.nth r1 0).toInt,(V.nth r2 0).toInt,(V.nth r3 0).toInt,(V.nth (r3.drop 1) 0).toInt)
 else
  kr (i,j,k',gN)
noncomputable def A3 (C:ag) (data:List V) (l i j k':Int) (t34:Bool) (gN:Int) {β:Type} (kr:(Int × Int)→Option β):Option β:=
 bif t34 then
  A1 C data i j k' (decide ((l:Int)≥50)) gN (un fun (eZ:Int)=>un fun (j_5:Int)=>un fun (k_6:Int) (adX:Int)=>
   (C z0 [.list aa data,.int .i64 eZ,.int .i64 j_5,.int .i64 k_6,.int .i64 adX]).bind fun r8=>
   kr ((V.nth r8 0).toInt,(V.nth (r8.drop 1) 0).toInt))
 else
  kr (j,gN)
noncomputable def Sb (C:ag):cB:=fun β n ds k=>
 bif Nat.beq n 591 then iJ JH [[1,0,0,0,0]] (@A1 C) ds k else
 bif Nat.beq n 559 then iJ JI [[0,0]] (@A3 C) ds k else
 none
abbrev Sd (C:ag) (b:cx):Prop:=cy Try.prog ax C (Sb C) 114 (cP Try.prog (ax.aX 114)) (ax.sin 114).a8.length b
theorem adY (C:ag):Sd C (.cond 36 (aw [1,1,1,1,1,1,0,1,0,0,1,0] sq) (aw [1,1,1,1,1,1,0,1,0,0,1,1] sq)):=
 jb JH [[1,0,0,0,0]] (@A1 C) (by kernel_rfl) (bh (bs:=[]) (by kernel_rfl) av) (bh (bs:=[]) (by kernel_rfl) av) (fun ds=>by kernel_rfl) (fun i β k=>by kernel_rfl) (fun β ds k=>by kernel_rfl)
theorem adZ (C:ag):Sd C (.cond 34 (aw [1,1,1,1,1,1,0,1,0] sq) (aw [1,1,1,1,1,1,0,1,1] sq)):=
 jb JI [[0,0]] (@A3 C) (by kernel_rfl) (bh (bs:=[.cond 36 (aw [1,1,1,1,1,1,0,1,0,0,1,0] sq) (aw [1,1,1,1,1,1,0,1,0,0,1,1] sq)]) (by kernel_rfl) (bG (adY C) av)) (bh (bs:=[]) (by kernel_rfl) av) (fun ds=>by kernel_rfl) (fun i β k=>by kernel_rfl) (fun β ds k=>by kernel_rfl)
noncomputable def KP (C:ag) (data:List V) (a b':Int):Option (List V):=
 A3 C data (IntKind.wrap .i64 (b'-a)) (IntKind.wrap .i64 (a+(IntKind.wrap .i64 (1*(IntKind.wrap .i64 (Int.tdiv (IntKind.wrap .i64 (b'-a)) 4)))))) (IntKind.wrap .i64 (a+(IntKind.wrap .i64 (2*(IntKind.wrap .i64 (Int.tdiv (IntKind.wrap .i64 (b'-a)) 4)))))) (IntKind.wrap .i64 (a+(IntKind.wrap .i64 (3*(IntKind.wrap .i64 (Int.tdiv (IntKind.wrap .i64 (b'-a)) 4)))))) (decide (((IntKind.wrap .i64 (b'-a)):Int)≥8)) 0 (un fun (KQ:Int) (Se:Int)=>
  bif (Se:Int)==0 then
   some [.int .i64 KQ,.int .i64 1]
  else
   bif (Se:Int)==12 then
   some [.int .i64 KQ,.int .i64 2]
   else
   some [.int .i64 KQ,.int .i64 0])
theorem Sf {data:List V} {a b':Int} {r:Option (List V)} (h:KP CC data a b'=r):CC zY [.list aa data,.int .i64 a,.int .i64 b']=r:=
 aY (key:=114) (L:=Sb CC) (bs:=[.cond 34 (aw [1,1,1,1,1,1,0,1,0] sq) (aw [1,1,1,1,1,1,0,1,1] sq)]) (by kernel_rfl) (bG (adZ CC) av) (aW (by kernel_rfl) h)
noncomputable def Sg (C:ag) (data:List V) (a b' c gN:Int):Option (List V):=
 (C wJ [.list aa data,.int .i64 a,.int .i64 b',.int .i64 gN]).bind fun r1=>
 (C wJ [.list aa data,.int .i64 ((V.nth (r1.drop 1) 0).toInt),.int .i64 c,.int .i64 ((V.nth (r1.drop 2) 0).toInt)]).bind fun r2=>
 (C wJ [.list aa data,.int .i64 ((V.nth r1 0).toInt),.int .i64 ((V.nth r2 0).toInt),.int .i64 ((V.nth (r2.drop 2) 0).toInt)]).bind fun r3=>
 some [.int .i64 ((V.nth (r3.drop 1) 0).toInt),.int .i64 ((V.nth (r3.drop 2) 0).toInt)]
theorem ad0 {data:List V} {a b' c gN:Int} {r:Option (List V)} (h:Sg CC data a b' c gN=r):CC z0 [.list aa data,.int .i64 a,.int .i64 b',.int .i64 c,.int .i64 gN]=r:=
 aY (key:=125) (L:=cb) (bs:=[]) (by kernel_rfl) av (aW (by kernel_rfl) h)
noncomputable def KR (C:ag) (data:List V) (a b' gN:Int):Option (List V):=
 (idx data b').bind fun x1=>
 (idx data a).bind fun x2=>
 (C a9 [.int .i64 ((x1.cell 0).toInt),.int .i64 ((x1.cell 1).toInt),.list aa ((x1.cell 2).toList),.int .i64 ((x2.cell 0).toInt),.int .i64 ((x2.cell 1).toInt),.list aa ((x2.cell 2).toList)]).bind fun r3=>
 bif decide ((((V.nth r3 0).toInt):Int)<0) then
  some [.int .i64 b',.int .i64 a,.int .i64 (IntKind.wrap .i64 (gN+1))]
 else
  some [.int .i64 a,.int .i64 b',.int .i64 gN]
theorem Sh {data:List V} {a b' gN:Int} {r:Option (List V)} (h:KR CC data a b' gN=r):CC wJ [.list aa data,.int .i64 a,.int .i64 b',.int .i64 gN]=r:=
 aY (key:=126) (L:=cb) (bs:=[]) (by kernel_rfl) av (aW (by kernel_rfl) h)
noncomputable def Si (C:ag) (data:List V) (a gN:Int):Option (List V):=
 (C z0 [.list aa data,.int .i64 (IntKind.wrap .i64 (a-1)),.int .i64 a,.int .i64 (IntKind.wrap .i64 (a+1)),.int .i64 gN]).bind fun r1=>
 some [.int .i64 ((V.nth r1 0).toInt),.int .i64 ((V.nth (r1.drop 1) 0).toInt)]
theorem ad1 {data:List V} {a gN:Int} {r:Option (List V)} (h:Si CC data a gN=r):CC wI [.list aa data,.int .i64 a,.int .i64 gN]=r:=
 aY (key:=124) (L:=cb) (bs:=[]) (by kernel_rfl) av (aW (by kernel_rfl) h)
noncomputable abbrev xB:Code:=cL Try.prog (ax.aX 113)
noncomputable def Fl (C:ag) (a length xC jE other:Int) (t45:Bool) (ak:List V) (A4:Int) {β:Type} (kr:(Int)→Option β):Option β:=
 bif t45 then
  kr (IntKind.wrap .i64 (other-length))
 else
  kr other
noncomputable def A5 (C:ag) (a length xC jE:Int) (ak:List V) (A4:Int) {β:Type} (kn:(Int × (List V) × Int)→Option β) (kr:(Int × Bool × (List V) × Int)→Option β):Option β:=
 bif decide ((jE:Int)≤(IntKind.wrap .i64 ((IntKind.wrap .i64 (a+(IntKind.wrap .i64 (2*(IntKind.wrap .i64 (Int.tdiv length 4))))))+1))) then
  (C Eu [.int .u64 A4]).bind fun r2=>
  Fl C a length xC jE (IntKind.wrap .i64 (IntKind.wrap .u64 ((BitVec.ofInt (IntKind.bits .u64) ((V.nth r2 0).toInt)&&&BitVec.ofInt (IntKind.bits .u64) (IntKind.wrap .u64 (xC-1))).toNat))) (decide (((IntKind.wrap .i64 (IntKind.wrap .u64 ((BitVec.ofInt (IntKind.bits .u64) ((V.nth r2 0).toInt)&&&BitVec.ofInt (IntKind.bits .u64) (IntKind.wrap .u64 (xC-1))).toNat))):Int)≥length)) ak ((V.nth (r2.drop 1) 0).toInt) (fun (uH:Int)=>
   bif (decide (0≤(IntKind.wrap .i64 (a+uH))))&&(decide ((IntKind.wrap .i64 (a+uH))<(ak.length:Int))) then
   (ak[(IntKind.wrap .i64 (a+uH):Int).toNat]?).bind fun x4=>
   bif (decide (0≤jE))&&(decide (jE<(ak.length:Int))) then
    (ak[(jE:Int).toNat]?).bind fun x5=>
    bif (decide (0≤jE))&&(decide (jE<(ak.length:Int))) then
    (ak[(jE:Int).toNat]?).bind fun x6=>
    bif (decide (0≤(IntKind.wrap .i64 (a+uH))))&&(decide ((IntKind.wrap .i64 (a+uH))<((ak.set ((jE:Int).toNat) (.agg [.int .i64 ((x4.cell 0).toInt),.int .i64 ((x4.cell 1).toInt),.list aa ((x4.cell 2).toList)])).length:Int))) then
     ((ak.set ((jE:Int).toNat) (.agg [.int .i64 ((x4.cell 0).toInt),.int .i64 ((x4.cell 1).toInt),.list aa ((x4.cell 2).toList)]))[(IntKind.wrap .i64 (a+uH):Int).toNat]?).bind fun x7=>
     kn (IntKind.wrap .i64 (jE+1),(ak.set ((jE:Int).toNat) (.agg [.int .i64 ((x4.cell 0).toInt),.int .i64 ((x4.cell 1).toInt),.list aa ((x4.cell 2).toList)])).set ((IntKind.wrap .i64 (a+uH):Int).toNat) (.agg [.int .i64 ((x5.cell 0).toInt),.int .i64 ((x5.cell 1).toInt),.list aa ((x5.cell 2).toList)]),(V.nth (r2.drop 1) 0).toInt)
    else none
    else none
   else none
   else none)
 else
  kr (jE,decide ((jE:Int)≤(IntKind.wrap .i64 ((IntKind.wrap .i64 (a+(IntKind.wrap .i64 (2*(IntKind.wrap .i64 (Int.tdiv length 4))))))+1))),ak,A4)
noncomputable def Fm (C:ag) (a length xC:Int):(Int × (List V) × Int)→Option ((Int × (List V) × Int) ⊕ (Int × Bool × (List V) × Int)):=un fun jE=>un fun ak A4=>A5 C a length xC jE ak A4 (fun y=>some (.inl y)) (fun r=>some (.inr r))
noncomputable def Sj (C:ag):cB:=fun β n ds k=>
 bif Nat.beq n 735 then iJ JF [[1,2,3,4,0,7,8]] (@Fl C) ds k else
 bif Nat.beq n 81 then cj JG [false,false,false,true,true,true] [[1,2,3,0,0,0,0]] (@A5 C) ds k else
 none
abbrev Sk (C:ag) (b:cx):Prop:=cy Try.prog ax C (Sj C) 113 (cP Try.prog (ax.aX 113)) (ax.sin 113).a8.length b
theorem ad2 (C:ag):Sk C (.cond 45 (aw [1,1,0,1,1,1,0,0,1,0,0,1,0,1,0] xB) (aw [1,1,0,1,1,1,0,0,1,0,0,1,0,1,1] xB)):=
 jb JF [[1,2,3,4,0,7,8]] (@Fl C) (by kernel_rfl) (bh (bs:=[]) (by kernel_rfl) av) (bh (bs:=[]) (by kernel_rfl) av) (fun ds=>by kernel_rfl) (fun i β k=>by kernel_rfl) (fun β ds k=>by kernel_rfl)
theorem ad3 (C:ag):Sk C (.loop (aw [1,1,0,1,1,1,0,0] xB)):=
 cr JG [false,false,false,true,true,true] [[1,2,3,0,0,0,0]] (@A5 C) (by kernel_rfl) (bh (bs:=[.cond 45 (aw [1,1,0,1,1,1,0,0,1,0,0,1,0,1,0] xB) (aw [1,1,0,1,1,1,0,0,1,0,0,1,0,1,1] xB)]) (by kernel_rfl) (bG (ad2 C) av)) (fun ds=>by kernel_rfl) (fun i x=>by kernel_rfl) (fun i x β k=>by kernel_rfl) (fun β ds k=>by kernel_rfl)
noncomputable def Sl (C:ag) (a b':Int) (ak:List V):Option (List V):=
 bif decide (((IntKind.wrap .i64 (b'-a)):Int)≥8) then
  (C Et [.int .i64 (IntKind.wrap .i64 (b'-a))]).bind fun r1=>
  (Loop (Fm C a (IntKind.wrap .i64 (b'-a)) ((V.nth r1 0).toInt)) (IntKind.wrap .i64 ((IntKind.wrap .i64 (a+(IntKind.wrap .i64 (2*(IntKind.wrap .i64 (Int.tdiv (IntKind.wrap .i64 (b'-a)) 4))))))-1),ak,IntKind.wrap .u64 (IntKind.wrap .i64 (b'-a)))).bind (un fun (aiR:Int)=>un fun (sd:Bool)=>un fun (ou:List V) (aiS:Int)=>
   some [.list aa ou])
 else
  some [.list aa ak]
theorem ad4 {a b':Int} {ak:List V} {r:Option (List V)} (h:Sl CC a b' ak=r):CC En [.int .i64 a,.int .i64 b',.list aa ak]=r:=
 aY (key:=113) (L:=Sj CC) (bs:=[.loop (aw [1,1,0,1,1,1,0,0] xB)]) (by kernel_rfl) (bG (ad3 CC) av) (aW (by kernel_rfl) h)
noncomputable def Sm (C:ag) (iM:Int):Option (List V):=
 some [.int .u64 (IntKind.wrap .u64 ((BitVec.ofInt (IntKind.bits .u64) (IntKind.wrap .u64 ((BitVec.ofInt (IntKind.bits .u64) (IntKind.wrap .u64 ((BitVec.ofInt (IntKind.bits .u64) iM ^^^ BitVec.ofInt (IntKind.bits .u64) (IntKind.wrap .u64 (iM*2^(min (13:Int).toNat (IntKind.bits .u64))))).toNat)) ^^^ BitVec.ofInt (IntKind.bits .u64) (Int.fdiv (IntKind.wrap .u64 ((BitVec.ofInt (IntKind.bits .u64) iM ^^^ BitVec.ofInt (IntKind.bits .u64) (IntKind.wrap .u64 (iM*2^(min (13:Int).toNat (IntKind.bits .u64))))).toNat)) (2^(min (7:Int).toNat (IntKind.bits .u64))))).toNat)) ^^^ BitVec.ofInt (IntKind.bits .u64) (IntKind.wrap .u64 ((IntKind.wrap .u64 ((BitVec.ofInt (IntKind.bits .u64) (IntKind.wrap .u64 ((BitVec.ofInt (IntKind.bits .u64) iM ^^^ BitVec.ofInt (IntKind.bits .u64) (IntKind.wrap .u64 (iM*2^(min (13:Int).toNat (IntKind.bits .u64))))).toNat)) ^^^ BitVec.ofInt (IntKind.bits .u64) (Int.fdiv (IntKind.wrap .u64 ((BitVec.ofInt (IntKind.bits .u64) iM ^^^ BitVec.ofInt (IntKind.bits .u64) (IntKind.wrap .u64 (iM*2^(min (13:Int).toNat (IntKind.bits .u64))))).toNat)) (2^(min (7:Int).toNat (IntKind.bits .u64))))).toNat))*2^(min (17:Int).toNat (IntKind.bits .u64))))).toNat)),.int .u64 (IntKind.wrap .u64 ((BitVec.ofInt (IntKind.bits .u64) (IntKind.wrap .u64 ((BitVec.ofInt (IntKind.bits .u64) (IntKind.wrap .u64 ((BitVec.ofInt (IntKind.bits .u64) iM ^^^ BitVec.ofInt (IntKind.bits .u64) (IntKind.wrap .u64 (iM*2^(min (13:Int).toNat (IntKind.bits .u64))))).toNat)) ^^^ BitVec.ofInt (IntKind.bits .u64) (Int.fdiv (IntKind.wrap .u64 ((BitVec.ofInt (IntKind.bits .u64) iM ^^^ BitVec.ofInt (IntKind.bits .u64) (IntKind.wrap .u64 (iM*2^(min (13:Int).toNat (IntKind.bits .u64))))).toNat)) (2^(min (7:Int).toNat (IntKind.bits .u64))))).toNat)) ^^^ BitVec.ofInt (IntKind.bits .u64) (IntKind.wrap .u64 ((IntKind.wrap .u64 ((BitVec.ofInt (IntKind.bits .u64) (IntKind.wrap .u64 ((BitVec.ofInt (IntKind.bits .u64) iM ^^^ BitVec.ofInt (IntKind.bits .u64) (IntKind.wrap .u64 (iM*2^(min (13:Int).toNat (IntKind.bits .u64))))).toNat)) ^^^ BitVec.ofInt (IntKind.bits .u64) (Int.fdiv (IntKind.wrap .u64 ((BitVec.ofInt (IntKind.bits .u64) iM ^^^ BitVec.ofInt (IntKind.bits .u64) (IntKind.wrap .u64 (iM*2^(min (13:Int).toNat (IntKind.bits .u64))))).toNat)) (2^(min (7:Int).toNat (IntKind.bits .u64))))).toNat))*2^(min (17:Int).toNat (IntKind.bits .u64))))).toNat))]
theorem ad5 {iM:Int} {r:Option (List V)} (h:Sm CC iM=r):CC Eu [.int .u64 iM]=r:=
 aY (key:=123) (L:=cb) (bs:=[]) (by kernel_rfl) av (aW (by kernel_rfl) h)
noncomputable def Sn (C:ag) (length:Int):Option (List V):=
 (C zV [.int .u64 (IntKind.wrap .u64 length)]).bind fun r1=>
 bif decide (0≤((V.nth r1 0).toInt)) then
  some [.int .u64 (IntKind.wrap .u64 (1*2^(min ((V.nth r1 0).toInt).toNat (IntKind.bits .u64))))]
 else none
theorem ad6 {length:Int} {r:Option (List V)} (h:Sn CC length=r):CC Et [.int .i64 length]=r:=
 aY (key:=122) (L:=cb) (bs:=[]) (by kernel_rfl) av (aW (by kernel_rfl) h)
noncomputable def So (C:ag) (x:Int):Option (List V):=
 (C Er [.int .u64 x]).bind fun r1=>
 some [.int .i64 ((V.nth r1 0).toInt)]
theorem ad7 {x:Int} {r:Option (List V)} (h:So CC x=r):CC zV [.int .u64 x]=r:=
 aY (key:=110) (L:=cb) (bs:=[]) (by kernel_rfl) av (aW (by kernel_rfl) h)
noncomputable abbrev sr:Code:=cL Try.prog (ax.aX 120)
noncomputable def uI (C:ag) (x n:Int) (t4:Bool) {β:Type} (kr:(Int × Int)→Option β):Option β:=
 bif t4 then
  kr (Int.fdiv x (2^(min (32:Int).toNat (IntKind.bits .u64))),32)
 else
  kr (x,n)
noncomputable def uJ (C:ag) (x n:Int) (t8:Bool) {β:Type} (kr:(Int × Int)→Option β):Option β:=
 bif t8 then
  kr (Int.fdiv x (2^(min (16:Int).toNat (IntKind.bits .u64))),IntKind.wrap .i64 (n+16))
 else
  kr (x,n)
noncomputable def Sp (C:ag):cB:=fun β n ds k=>
 bif Nat.beq n 79 then iJ JX [[0,0]] (@uI C) ds k else
 bif Nat.beq n 143 then iJ JY [[0,0]] (@uJ C) ds k else
 none
abbrev Sq (C:ag) (b:cx):Prop:=cy Try.prog ax C (Sp C) 120 (cP Try.prog (ax.aX 120)) (ax.sin 120).a8.length b
theorem ad8 (C:ag):Sq C (.cond 4 (aw [1,0,1,0] sr) (aw [1,0,1,1] sr)):=
 jb JX [[0,0]] (@uI C) (by kernel_rfl) (bh (bs:=[]) (by kernel_rfl) av) (bh (bs:=[]) (by kernel_rfl) av) (fun ds=>by kernel_rfl) (fun i β k=>by kernel_rfl) (fun β ds k=>by kernel_rfl)
theorem ad9 (C:ag):Sq C (.cond 8 (aw [1,1,0,1,0] sr) (aw [1,1,0,1,1] sr)):=
 jb JY [[0,0]] (@uJ C) (by kernel_rfl) (bh (bs:=[]) (by kernel_rfl) av) (bh (bs:=[]) (by kernel_rfl) av) (fun ds=>by kernel_rfl) (fun i β k=>by kernel_rfl) (fun β ds k=>by kernel_rfl)
noncomputable def aea (C:ag) (x:Int):Option (List V):=
 uI C x 0 (decide ((x:Int)≥4294967296)) (un fun (su:Int) (A6:Int)=>
  uJ C su A6 (decide ((su:Int)≥65536)) (un fun (A7:Int) (Sr:Int)=>
   bif decide ((A7:Int)≥256) then
    (bif decide (0≤(IntKind.wrap .u8 (Int.fdiv A7 (2^(min (8:Int).toNat (IntKind.bits .u64)))))) then (([0,1,2,2,3,3,3,3,4,4,4,4,4,4,4,4,5,5,5,5,5,5,5,5,5,5,5,5,5,5,5,5,6,6,6,6,6,6,6,6,6,6,6,6,6,6,6,6,6,6,6,6,6,6,6,6,6,6,6,6,6,6,6,6,7,7,7,7,7,7,7,7,7,7,7,7,7,7,7,7,7,7,7,7,7,7,7,7,7,7,7,7,7,7,7,7,7,7,7,7,7,7,7,7,7,7,7,7,7,7,7,7,7,7,7,7,7,7,7,7,7,7,7,7,7,7,7,7,8,8,8,8,8,8,8,8,8,8,8,8,8,8,8,8,8,8,8,8,8,8,8,8,8,8,8,8,8,8,8,8,8,8,8,8,8,8,8,8,8,8,8,8,8,8,8,8,8,8,8,8,8,8,8,8,8,8,8,8,8,8,8,8,8,8,8,8,8,8,8,8,8,8,8,8,8,8,8,8,8,8,8,8,8,8,8,8,8,8,8,8,8,8,8,8,8,8,8,8,8,8,8,8,8,8,8,8,8,8,8,8,8,8,8,8,8,8,8,8,8,8,8,8,8,8,8,8]:List UInt8)[(IntKind.wrap .u8 (Int.fdiv A7 (2^(min (8:Int).toNat (IntKind.bits .u64)))):Int).toNat]?).map fun b=>V.int .u8 b.toNat else none).bind fun x5=>
    some [.int .i64 (IntKind.wrap .i64 ((IntKind.wrap .i64 (Sr+8))+(IntKind.wrap .i64 x5.toInt)))]
   else
    (bif decide (0≤(IntKind.wrap .u8 A7)) then (([0,1,2,2,3,3,3,3,4,4,4,4,4,4,4,4,5,5,5,5,5,5,5,5,5,5,5,5,5,5,5,5,6,6,6,6,6,6,6,6,6,6,6,6,6,6,6,6,6,6,6,6,6,6,6,6,6,6,6,6,6,6,6,6,7,7,7,7,7,7,7,7,7,7,7,7,7,7,7,7,7,7,7,7,7,7,7,7,7,7,7,7,7,7,7,7,7,7,7,7,7,7,7,7,7,7,7,7,7,7,7,7,7,7,7,7,7,7,7,7,7,7,7,7,7,7,7,7,8,8,8,8,8,8,8,8,8,8,8,8,8,8,8,8,8,8,8,8,8,8,8,8,8,8,8,8,8,8,8,8,8,8,8,8,8,8,8,8,8,8,8,8,8,8,8,8,8,8,8,8,8,8,8,8,8,8,8,8,8,8,8,8,8,8,8,8,8,8,8,8,8,8,8,8,8,8,8,8,8,8,8,8,8,8,8,8,8,8,8,8,8,8,8,8,8,8,8,8,8,8,8,8,8,8,8,8,8,8,8,8,8,8,8,8,8,8,8,8,8,8,8,8,8,8,8,8]:List UInt8)[(IntKind.wrap .u8 A7:Int).toNat]?).map fun b=>V.int .u8 b.toNat else none).bind fun x6=>
    some [.int .i64 (IntKind.wrap .i64 (Sr+(IntKind.wrap .i64 x6.toInt)))]))
theorem Ss {x:Int} {r:Option (List V)} (h:aea CC x=r):CC Er [.int .u64 x]=r:=
 aY (key:=120) (L:=Sp CC) (bs:=[.cond 4 (aw [1,0,1,0] sr) (aw [1,0,1,1] sr),.cond 8 (aw [1,1,0,1,0] sr) (aw [1,1,0,1,1] sr)]) (by kernel_rfl) (bG (ad8 CC) (bG (ad9 CC) av)) (aW (by kernel_rfl) h)
noncomputable abbrev lz:Code:=cL Try.prog (ax.aX 109)
noncomputable def xD (C:ag) (a b' ji:Int) (eu eQ:Bool) (length:Int) (t39:Bool) (ak:List V) {β:Type} (kr:(Int × (List V))→Option β):Option β:=
 bif t39 then
  (C En [.int .i64 a,.int .i64 b',.list aa ak]).bind fun r3=>
  kr (IntKind.wrap .i64 (ji-1),(V.nth r3 0).toList)
 else
  kr (ji,ak)
noncomputable def xE (C:ag) (a b' ji:Int) (eu eQ:Bool) (length pivot hint:Int) (t56:Bool) (ak:List V) {β:Type} (kr:(Int × Int × (List V))→Option β):Option β:=
 bif t56 then
  (C Eo [.int .i64 a,.int .i64 b',.list aa ak]).bind fun r7=>
  kr (IntKind.wrap .i64 ((IntKind.wrap .i64 (b'-1))-(IntKind.wrap .i64 (pivot-a))),1,(V.nth r7 0).toList)
 else
  kr (pivot,hint,ak)
noncomputable def mn (C:ag) (a b' ji:Int) (eu eQ:Bool) (length pivot:Int) (t75:Bool) (ak:List V) {β:Type} (kr:((Bool × (List V)) ⊕ (List V))→Option β):Option β:=
 bif t75 then
  (C Ep [.int .i64 a,.int .i64 b',.list aa ak]).bind fun eR=>
  bif (V.nth eR 0).toBool then
  kr (.inl ((V.nth eR 0).toBool,(V.nth (eR.drop 1) 0).toList))
  else
  kr (.inr ((V.nth (eR.drop 1) 0).toList))
 else
  kr (.inr ak)
noncomputable def pt (C:ag) (a b' ji:Int) (eu eQ:Bool) (ak:List V) {β:Type} (kn:(Int × Int × Int × Bool × Bool × (List V))→Option β) (kr:(List V)→Option β):Option β:=
 bif decide (((IntKind.wrap .i64 (b'-a)):Int)≤12) then
  (C zW [.int .i64 a,.int .i64 b',.list aa ak]).bind fun r1=>
  kr ((V.nth r1 0).toList)
 else
  bif (ji:Int)==0 then
  (C zX [.int .i64 a,.int .i64 b',.list aa ak]).bind fun r2=>
  kr ((V.nth r2 0).toList)
  else
  xD C a b' ji eu eQ (IntKind.wrap .i64 (b'-a)) (!eu) ak (un fun (cE:Int) (A8:List V)=>
   (C zY [.list aa A8,.int .i64 a,.int .i64 b']).bind fun r6=>
   xE C a b' cE eu eQ (IntKind.wrap .i64 (b'-a)) ((V.nth r6 0).toInt) ((V.nth (r6.drop 1) 0).toInt) ((((V.nth (r6.drop 1) 0).toInt):Int)==2) A8 (un fun (dC:Int)=>un fun (KS:Int) (ou:List V)=>
    bif eu then
     bif eQ then
     mn C a b' cE eu eQ (IntKind.wrap .i64 (b'-a)) dC ((KS:Int)==1) ou (bX (un fun (J8:Bool) (KG:List V)=>
      kr KG) (fun (uK:List V)=>
      bif decide ((a:Int)>0) then
       bif (decide (0≤(IntKind.wrap .i64 (a-1))))&&(decide ((IntKind.wrap .i64 (a-1))<(uK.length:Int))) then
       (uK[(IntKind.wrap .i64 (a-1):Int).toNat]?).bind fun fE=>
       bif (decide (0≤dC))&&(decide (dC<(uK.length:Int))) then
        (uK[(dC:Int).toNat]?).bind fun gr=>
        (C a9 [.int .i64 ((fE.cell 0).toInt),.int .i64 ((fE.cell 1).toInt),.list aa ((fE.cell 2).toList),.int .i64 ((gr.cell 0).toInt),.int .i64 ((gr.cell 1).toInt),.list aa ((gr.cell 2).toList)]).bind fun dU=>
        bif !(decide ((((V.nth dU 0).toInt):Int)<0)) then
        (C ua [.int .i64 a,.int .i64 b',.int .i64 dC,.list aa uK]).bind fun jF=>
        kn ((V.nth jF 0).toInt,b',cE,eu,eQ,(V.nth (jF.drop 1) 0).toList)
        else
        (C mW [.int .i64 a,.int .i64 b',.int .i64 dC,.list aa uK]).bind fun ep=>
        bif decide (((IntKind.wrap .i64 (((V.nth ep 0).toInt)-a)):Int)<(IntKind.wrap .i64 (b'-((V.nth ep 0).toInt)))) then
         (C gd [.int .i64 a,.int .i64 ((V.nth ep 0).toInt),.int .i64 cE,.list aa ((V.nth (ep.drop 2) 0).toList)]).bind fun jk=>
         kn (IntKind.wrap .i64 (((V.nth ep 0).toInt)+1),b',cE,decide (((IntKind.wrap .i64 (((V.nth ep 0).toInt)-a)):Int)≥(IntKind.wrap .i64 (Int.tdiv (IntKind.wrap .i64 (b'-a)) 8))),(V.nth (ep.drop 1) 0).toBool,(V.nth jk 0).toList)
        else
         (C gd [.int .i64 (IntKind.wrap .i64 (((V.nth ep 0).toInt)+1)),.int .i64 b',.int .i64 cE,.list aa ((V.nth (ep.drop 2) 0).toList)]).bind fun ox=>
         kn (a,(V.nth ep 0).toInt,cE,decide (((IntKind.wrap .i64 (b'-((V.nth ep 0).toInt))):Int)≥(IntKind.wrap .i64 (Int.tdiv (IntKind.wrap .i64 (b'-a)) 8))),(V.nth (ep.drop 1) 0).toBool,(V.nth ox 0).toList)
       else none
       else none
      else
       (C mW [.int .i64 a,.int .i64 b',.int .i64 dC,.list aa uK]).bind fun ka=>
       bif decide (((IntKind.wrap .i64 (((V.nth ka 0).toInt)-a)):Int)<(IntKind.wrap .i64 (b'-((V.nth ka 0).toInt)))) then
       (C gd [.int .i64 a,.int .i64 ((V.nth ka 0).toInt),.int .i64 cE,.list aa ((V.nth (ka.drop 2) 0).toList)]).bind fun r23=>
       kn (IntKind.wrap .i64 (((V.nth ka 0).toInt)+1),b',cE,decide (((IntKind.wrap .i64 (((V.nth ka 0).toInt)-a)):Int)≥(IntKind.wrap .i64 (Int.tdiv (IntKind.wrap .i64 (b'-a)) 8))),(V.nth (ka.drop 1) 0).toBool,(V.nth r23 0).toList)
       else
       (C gd [.int .i64 (IntKind.wrap .i64 (((V.nth ka 0).toInt)+1)),.int .i64 b',.int .i64 cE,.list aa ((V.nth (ka.drop 2) 0).toList)]).bind fun Ke=>
       kn (a,(V.nth ka 0).toInt,cE,decide (((IntKind.wrap .i64 (b'-((V.nth ka 0).toInt))):Int)≥(IntKind.wrap .i64 (Int.tdiv (IntKind.wrap .i64 (b'-a)) 8))),(V.nth (ka.drop 1) 0).toBool,(V.nth Ke 0).toList)))
     else
     mn C a b' cE eu eQ (IntKind.wrap .i64 (b'-a)) dC false ou (bX (un fun (ZM:Bool) (aeb:List V)=>
      kr aeb) (fun (qK:List V)=>
      bif decide ((a:Int)>0) then
       bif (decide (0≤(IntKind.wrap .i64 (a-1))))&&(decide ((IntKind.wrap .i64 (a-1))<(qK.length:Int))) then
       (qK[(IntKind.wrap .i64 (a-1):Int).toNat]?).bind fun uD=>
       bif (decide (0≤dC))&&(decide (dC<(qK.length:Int))) then
        (qK[(dC:Int).toNat]?).bind fun uE=>
        (C a9 [.int .i64 ((uD.cell 0).toInt),.int .i64 ((uD.cell 1).toInt),.list aa ((uD.cell 2).toList),.int .i64 ((uE.cell 0).toInt),.int .i64 ((uE.cell 1).toInt),.list aa ((uE.cell 2).toList)]).bind fun Fe=>
        bif !(decide ((((V.nth Fe 0).toInt):Int)<0)) then
        (C ua [.int .i64 a,.int .i64 b',.int .i64 dC,.list aa qK]).bind fun Su=>
        kn ((V.nth Su 0).toInt,b',cE,eu,eQ,(V.nth (Su.drop 1) 0).toList)
        else
        (C mW [.int .i64 a,.int .i64 b',.int .i64 dC,.list aa qK]).bind fun ni=>
        bif decide (((IntKind.wrap .i64 (((V.nth ni 0).toInt)-a)):Int)<(IntKind.wrap .i64 (b'-((V.nth ni 0).toInt)))) then
         (C gd [.int .i64 a,.int .i64 ((V.nth ni 0).toInt),.int .i64 cE,.list aa ((V.nth (ni.drop 2) 0).toList)]).bind fun r33=>
         kn (IntKind.wrap .i64 (((V.nth ni 0).toInt)+1),b',cE,decide (((IntKind.wrap .i64 (((V.nth ni 0).toInt)-a)):Int)≥(IntKind.wrap .i64 (Int.tdiv (IntKind.wrap .i64 (b'-a)) 8))),(V.nth (ni.drop 1) 0).toBool,(V.nth r33 0).toList)
        else
         (C gd [.int .i64 (IntKind.wrap .i64 (((V.nth ni 0).toInt)+1)),.int .i64 b',.int .i64 cE,.list aa ((V.nth (ni.drop 2) 0).toList)]).bind fun r34=>
         kn (a,(V.nth ni 0).toInt,cE,decide (((IntKind.wrap .i64 (b'-((V.nth ni 0).toInt))):Int)≥(IntKind.wrap .i64 (Int.tdiv (IntKind.wrap .i64 (b'-a)) 8))),(V.nth (ni.drop 1) 0).toBool,(V.nth r34 0).toList)
       else none
       else none
      else
       (C mW [.int .i64 a,.int .i64 b',.int .i64 dC,.list aa qK]).bind fun nj=>
       bif decide (((IntKind.wrap .i64 (((V.nth nj 0).toInt)-a)):Int)<(IntKind.wrap .i64 (b'-((V.nth nj 0).toInt)))) then
       (C gd [.int .i64 a,.int .i64 ((V.nth nj 0).toInt),.int .i64 cE,.list aa ((V.nth (nj.drop 2) 0).toList)]).bind fun r36=>
       kn (IntKind.wrap .i64 (((V.nth nj 0).toInt)+1),b',cE,decide (((IntKind.wrap .i64 (((V.nth nj 0).toInt)-a)):Int)≥(IntKind.wrap .i64 (Int.tdiv (IntKind.wrap .i64 (b'-a)) 8))),(V.nth (nj.drop 1) 0).toBool,(V.nth r36 0).toList)
       else
       (C gd [.int .i64 (IntKind.wrap .i64 (((V.nth nj 0).toInt)+1)),.int .i64 b',.int .i64 cE,.list aa ((V.nth (nj.drop 2) 0).toList)]).bind fun r37=>
       kn (a,(V.nth nj 0).toInt,cE,decide (((IntKind.wrap .i64 (b'-((V.nth nj 0).toInt))):Int)≥(IntKind.wrap .i64 (Int.tdiv (IntKind.wrap .i64 (b'-a)) 8))),(V.nth (nj.drop 1) 0).toBool,(V.nth r37 0).toList)))
    else
     mn C a b' cE eu eQ (IntKind.wrap .i64 (b'-a)) dC false ou (bX (un fun (Ql:Bool) (aec:List V)=>
      kr aec) (fun (jD:List V)=>
      bif decide ((a:Int)>0) then
      bif (decide (0≤(IntKind.wrap .i64 (a-1))))&&(decide ((IntKind.wrap .i64 (a-1))<(jD.length:Int))) then
       (jD[(IntKind.wrap .i64 (a-1):Int).toNat]?).bind fun ml=>
       bif (decide (0≤dC))&&(decide (dC<(jD.length:Int))) then
       (jD[(dC:Int).toNat]?).bind fun uG=>
       (C a9 [.int .i64 ((ml.cell 0).toInt),.int .i64 ((ml.cell 1).toInt),.list aa ((ml.cell 2).toList),.int .i64 ((uG.cell 0).toInt),.int .i64 ((uG.cell 1).toInt),.list aa ((uG.cell 2).toList)]).bind fun r43=>
       bif !(decide ((((V.nth r43 0).toInt):Int)<0)) then
        (C ua [.int .i64 a,.int .i64 b',.int .i64 dC,.list aa jD]).bind fun Sv=>
        kn ((V.nth Sv 0).toInt,b',cE,eu,eQ,(V.nth (Sv.drop 1) 0).toList)
       else
        (C mW [.int .i64 a,.int .i64 b',.int .i64 dC,.list aa jD]).bind fun nk=>
        bif decide (((IntKind.wrap .i64 (((V.nth nk 0).toInt)-a)):Int)<(IntKind.wrap .i64 (b'-((V.nth nk 0).toInt)))) then
        (C gd [.int .i64 a,.int .i64 ((V.nth nk 0).toInt),.int .i64 cE,.list aa ((V.nth (nk.drop 2) 0).toList)]).bind fun r46=>
        kn (IntKind.wrap .i64 (((V.nth nk 0).toInt)+1),b',cE,decide (((IntKind.wrap .i64 (((V.nth nk 0).toInt)-a)):Int)≥(IntKind.wrap .i64 (Int.tdiv (IntKind.wrap .i64 (b'-a)) 8))),(V.nth (nk.drop 1) 0).toBool,(V.nth r46 0).toList)
        else
        (C gd [.int .i64 (IntKind.wrap .i64 (((V.nth nk 0).toInt)+1)),.int .i64 b',.int .i64 cE,.list aa ((V.nth (nk.drop 2) 0).toList)]).bind fun r47=>
        kn (a,(V.nth nk 0).toInt,cE,decide (((IntKind.wrap .i64 (b'-((V.nth nk 0).toInt))):Int)≥(IntKind.wrap .i64 (Int.tdiv (IntKind.wrap .i64 (b'-a)) 8))),(V.nth (nk.drop 1) 0).toBool,(V.nth r47 0).toList)
       else none
      else none
      else
      (C mW [.int .i64 a,.int .i64 b',.int .i64 dC,.list aa jD]).bind fun nn=>
      bif decide (((IntKind.wrap .i64 (((V.nth nn 0).toInt)-a)):Int)<(IntKind.wrap .i64 (b'-((V.nth nn 0).toInt)))) then
       (C gd [.int .i64 a,.int .i64 ((V.nth nn 0).toInt),.int .i64 cE,.list aa ((V.nth (nn.drop 2) 0).toList)]).bind fun r49=>
       kn (IntKind.wrap .i64 (((V.nth nn 0).toInt)+1),b',cE,decide (((IntKind.wrap .i64 (((V.nth nn 0).toInt)-a)):Int)≥(IntKind.wrap .i64 (Int.tdiv (IntKind.wrap .i64 (b'-a)) 8))),(V.nth (nn.drop 1) 0).toBool,(V.nth r49 0).toList)
      else
       (C gd [.int .i64 (IntKind.wrap .i64 (((V.nth nn 0).toInt)+1)),.int .i64 b',.int .i64 cE,.list aa ((V.nth (nn.drop 2) 0).toList)]).bind fun r50=>
       kn (a,(V.nth nn 0).toInt,cE,decide (((IntKind.wrap .i64 (b'-((V.nth nn 0).toInt))):Int)≥(IntKind.wrap .i64 (Int.tdiv (IntKind.wrap .i64 (b'-a)) 8))),(V.nth (nn.drop 1) 0).toBool,(V.nth r50 0).toList)))))
noncomputable def Sw (C:ag):(Int × Int × Int × Bool × Bool × (List V))→Option ((Int × Int × Int × Bool × Bool × (List V)) ⊕ (List V)):=un fun a=>un fun b'=>un fun ji=>un fun eu=>un fun eQ ak=>pt C a b' ji eu eQ ak (fun y=>some (.inl y)) (fun r=>some (.inr r))
noncomputable def Sy (C:ag):cB:=fun β n ds k=>
 bif Nat.beq n 639 then iJ Jx [[1,2,0,4,5,6,0]] (@xD C) ds k else
 bif Nat.beq n 911 then iJ Jy [[1,2,3,4,5,6,0,0,0]] (@xE C) ds k else
 bif Nat.beq n 1215 then iJ Jz [[1,2,3,4,5,6,7,0,0],[1,2,3,4,5,6,7,0]] (@mn C) ds k else
 bif Nat.beq n 33 then cj JA [true,true,true,true,true,true] [[0]] (@pt C) ds k else
 none
abbrev Fo (C:ag) (b:cx):Prop:=cy Try.prog ax C (Sy C) 109 (cP Try.prog (ax.aX 109)) (ax.sin 109).a8.length b
theorem aed (C:ag):Fo C (.cond 39 (aw [1,1,0,0,0,1,1,1,0,1,0] lz) (aw [1,1,0,0,0,1,1,1,0,1,1] lz)):=
 jb Jx [[1,2,0,4,5,6,0]] (@xD C) (by kernel_rfl) (bh (bs:=[]) (by kernel_rfl) av) (bh (bs:=[]) (by kernel_rfl) av) (fun ds=>by kernel_rfl) (fun i β k=>by kernel_rfl) (fun β ds k=>by kernel_rfl)
theorem aee (C:ag):Fo C (.cond 56 (aw [1,1,0,0,0,1,1,1,1,1,0,1,0] lz) (aw [1,1,0,0,0,1,1,1,1,1,0,1,1] lz)):=
 jb Jy [[1,2,3,4,5,6,0,0,0]] (@xE C) (by kernel_rfl) (bh (bs:=[]) (by kernel_rfl) av) (bh (bs:=[]) (by kernel_rfl) av) (fun ds=>by kernel_rfl) (fun i β k=>by kernel_rfl) (fun β ds k=>by kernel_rfl)
theorem aef (C:ag):Fo C (.cond 75 (aw [1,1,0,0,0,1,1,1,1,1,1,0,1,0] lz) (aw [1,1,0,0,0,1,1,1,1,1,1,0,1,1] lz)):=
 jb Jz [[1,2,3,4,5,6,7,0,0],[1,2,3,4,5,6,7,0]] (@mn C) (by kernel_rfl) (bh (bs:=[]) (by kernel_rfl) av) (bh (bs:=[]) (by kernel_rfl) av) (fun ds=>by kernel_rfl) (fun i β k=>by kernel_rfl) (fun β ds k=>by kernel_rfl)
theorem aeg (C:ag):Fo C (.loop (aw [1,1,0,0] lz)):=
 cr JA [true,true,true,true,true,true] [[0]] (@pt C) (by kernel_rfl) (bh (bs:=[.cond 39 (aw [1,1,0,0,0,1,1,1,0,1,0] lz) (aw [1,1,0,0,0,1,1,1,0,1,1] lz),.cond 56 (aw [1,1,0,0,0,1,1,1,1,1,0,1,0] lz) (aw [1,1,0,0,0,1,1,1,1,1,0,1,1] lz),.cond 75 (aw [1,1,0,0,0,1,1,1,1,1,1,0,1,0] lz) (aw [1,1,0,0,0,1,1,1,1,1,1,0,1,1] lz)]) (by kernel_rfl) (bG (aed C) (bG (aee C) (bG (aef C) av)))) (fun ds=>by kernel_rfl) (fun i x=>by kernel_rfl) (fun i x β k=>by kernel_rfl) (fun β ds k=>by kernel_rfl)
noncomputable def Sz (C:ag) (a b' ji:Int) (ak:List V):Option (List V):=
 (Loop (Sw C) (a,b',ji,true,true,ak)).bind (fun (aeh:List V)=>
  some [.list aa aeh])
theorem aei {a b' ji:Int} {ak:List V} {r:Option (List V)} (h:Sz CC a b' ji ak=r):CC gd [.int .i64 a,.int .i64 b',.int .i64 ji,.list aa ak]=r:=
 aY (key:=109) (L:=Sy CC) (bs:=[.loop (aw [1,1,0,0] lz)]) (by kernel_rfl) (bG (aeg CC) av) (aW (by kernel_rfl) h)
noncomputable def SA (C:ag) (xs:List V):Option (List V):=
 (C zV [.int .u64 (IntKind.wrap .u64 (xs.length:Int))]).bind fun r1=>
 (C gd [.int .i64 0,.int .i64 (xs.length:Int),.int .i64 ((V.nth r1 0).toInt),.list aa xs]).bind fun r2=>
 some [.list aa ((V.nth r2 0).toList)]
theorem aej {xs:List V} {r:Option (List V)} (h:SA CC xs=r):CC zU [.list aa xs]=r:=
 aY (key:=105) (L:=cb) (bs:=[]) (by kernel_rfl) av (aW (by kernel_rfl) h)
end Go.AM
set_option maxRecDepth 100000
set_option maxHeartbeats 4000000
namespace Go.AM.SX
open Go.Proofs Go.Sort
theorem aek (a b:XE):bN a b<0↔a.lt b:=Iff.rfl
theorem SB (a b:XE):(ay a b=true)=(a.lt b):=by rw[sm];rfl
theorem Fp (a b:XE):(ay a b=false)= ¬(a.lt b):=by rw[←SB];simp
theorem xF:SWO ay where
 irrefl x:=by rw[Fp];exact XE.lt_irrefl x
 trans x y z:=by simp only[SB];exact XE.lt_trans
 ntrans x y z:=by simp only[Fp];exact XE.ac1
def Fq:List UInt8:=([0,1,2,2,3,3,3,3,4,4,4,4,4,4,4,4,5,5,5,5,5,5,5,5,5,5,5,5,5,5,5,5,6,6,6,6,6,6,6,6,6,6,6,6,6,6,6,6,6,6,6,6,6,6,6,6,6,6,6,6,6,6,6,6,7,7,7,7,7,7,7,7,7,7,7,7,7,7,7,7,7,7,7,7,7,7,7,7,7,7,7,7,7,7,7,7,7,7,7,7,7,7,7,7,7,7,7,7,7,7,7,7,7,7,7,7,7,7,7,7,7,7,7,7,7,7,7,7,8,8,8,8,8,8,8,8,8,8,8,8,8,8,8,8,8,8,8,8,8,8,8,8,8,8,8,8,8,8,8,8,8,8,8,8,8,8,8,8,8,8,8,8,8,8,8,8,8,8,8,8,8,8,8,8,8,8,8,8,8,8,8,8,8,8,8,8,8,8,8,8,8,8,8,8,8,8,8,8,8,8,8,8,8,8,8,8,8,8,8,8,8,8,8,8,8,8,8,8,8,8,8,8,8,8,8,8,8,8,8,8,8,8,8,8,8,8,8,8,8,8,8,8,8,8,8,8]:List UInt8)
theorem ael:(List.range 256).all (fun y=>match Fq[y]? with|some b=>decide (b.toNat≤8)&&(Nat.beq y 0||(decide (1≤b.toNat)&&decide (2^(b.toNat-1)≤y)))|none=>false)=true:=by decide+kernel
theorem SC {y:Nat} (h:y<256): ∃b,Fq[y]? =some b∧b.toNat≤8∧(0<y→1≤b.toNat∧2^(b.toNat-1)≤y):=by
 have:=e6.1 ael y (List.mem_range.2 h)
 cases hb:Fq[y]? with
 | none=>rw[hb] at this;cases this
 | some b=>
  rw[hb] at this
  simp only[aI,Bool.or_eq_true,dF] at this
  refine ⟨b,rfl,this.1,fun hy=> ?_⟩
  rcases this.2 with U|U
  ·have:=ya U;omega
  ·exact U
theorem KT {y t k:Nat} (h:2^(t-1)≤y/2^k) (ht:1≤t):2^(t+k-1)≤y:=by
 have e:t+k-1=(t-1)+k:=by omega
 rw[e,Nat.pow_add]
 exact lE (dp _ h) (Nat.div_mul_le_self _ _)
noncomputable def xG (y n:Int):Option (List V):=
(bif decide ((y:Int)≥256) then
    (bif decide (0≤(IntKind.wrap .u8 (Int.fdiv y (2^(min (8:Int).toNat (IntKind.bits .u64)))))) then (([0,1,2,2,3,3,3,3,4,4,4,4,4,4,4,4,5,5,5,5,5,5,5,5,5,5,5,5,5,5,5,5,6,6,6,6,6,6,6,6,6,6,6,6,6,6,6,6,6,6,6,6,6,6,6,6,6,6,6,6,6,6,6,6,7,7,7,7,7,7,7,7,7,7,7,7,7,7,7,7,7,7,7,7,7,7,7,7,7,7,7,7,7,7,7,7,7,7,7,7,7,7,7,7,7,7,7,7,7,7,7,7,7,7,7,7,7,7,7,7,7,7,7,7,7,7,7,7,8,8,8,8,8,8,8,8,8,8,8,8,8,8,8,8,8,8,8,8,8,8,8,8,8,8,8,8,8,8,8,8,8,8,8,8,8,8,8,8,8,8,8,8,8,8,8,8,8,8,8,8,8,8,8,8,8,8,8,8,8,8,8,8,8,8,8,8,8,8,8,8,8,8,8,8,8,8,8,8,8,8,8,8,8,8,8,8,8,8,8,8,8,8,8,8,8,8,8,8,8,8,8,8,8,8,8,8,8,8,8,8,8,8,8,8,8,8,8,8,8,8,8,8,8,8,8,8]:List UInt8)[(IntKind.wrap .u8 (Int.fdiv y (2^(min (8:Int).toNat (IntKind.bits .u64)))):Int).toNat]?).map fun b=>V.int .u8 b.toNat else none).bind fun x5=>
    some [V.int .i64 (IntKind.wrap .i64 ((IntKind.wrap .i64 (n+8))+(IntKind.wrap .i64 x5.toInt)))]
   else
    (bif decide (0≤(IntKind.wrap .u8 y)) then (([0,1,2,2,3,3,3,3,4,4,4,4,4,4,4,4,5,5,5,5,5,5,5,5,5,5,5,5,5,5,5,5,6,6,6,6,6,6,6,6,6,6,6,6,6,6,6,6,6,6,6,6,6,6,6,6,6,6,6,6,6,6,6,6,7,7,7,7,7,7,7,7,7,7,7,7,7,7,7,7,7,7,7,7,7,7,7,7,7,7,7,7,7,7,7,7,7,7,7,7,7,7,7,7,7,7,7,7,7,7,7,7,7,7,7,7,7,7,7,7,7,7,7,7,7,7,7,7,8,8,8,8,8,8,8,8,8,8,8,8,8,8,8,8,8,8,8,8,8,8,8,8,8,8,8,8,8,8,8,8,8,8,8,8,8,8,8,8,8,8,8,8,8,8,8,8,8,8,8,8,8,8,8,8,8,8,8,8,8,8,8,8,8,8,8,8,8,8,8,8,8,8,8,8,8,8,8,8,8,8,8,8,8,8,8,8,8,8,8,8,8,8,8,8,8,8,8,8,8,8,8,8,8,8,8,8,8,8,8,8,8,8,8,8,8,8,8,8,8,8,8,8,8,8,8,8]:List UInt8)[(IntKind.wrap .u8 y:Int).toNat]?).map fun b=>V.int .u8 b.toNat else none).bind fun x6=>
    some [V.int .i64 (IntKind.wrap .i64 (n+(IntKind.wrap .i64 x6.toInt)))])
theorem aem {x:Nat} (h:x<2^64): ∃L:Nat,CC Er [.int .u64 (x:Int)]=some [.int .i64 (L:Int)]∧L≤64∧(0<x→1≤L∧2^(L-1)≤x):=by
 have last: ∀y n:Nat,y<65536→n≤48→∃t:Nat,
   xG (y:Int) (n:Int)=some [V.int .i64 ((n+t:Nat):Int)]∧t≤16∧(0<y→1≤t∧2^(t-1)≤y):=by
  intro y n hy hn
  unfold xG
  rw[show ([0,1,2,2,3,3,3,3,4,4,4,4,4,4,4,4,5,5,5,5,5,5,5,5,5,5,5,5,5,5,5,5,6,6,6,6,6,6,6,6,6,6,6,6,6,6,6,6,6,6,6,6,6,6,6,6,6,6,6,6,6,6,6,6,7,7,7,7,7,7,7,7,7,7,7,7,7,7,7,7,7,7,7,7,7,7,7,7,7,7,7,7,7,7,7,7,7,7,7,7,7,7,7,7,7,7,7,7,7,7,7,7,7,7,7,7,7,7,7,7,7,7,7,7,7,7,7,7,8,8,8,8,8,8,8,8,8,8,8,8,8,8,8,8,8,8,8,8,8,8,8,8,8,8,8,8,8,8,8,8,8,8,8,8,8,8,8,8,8,8,8,8,8,8,8,8,8,8,8,8,8,8,8,8,8,8,8,8,8,8,8,8,8,8,8,8,8,8,8,8,8,8,8,8,8,8,8,8,8,8,8,8,8,8,8,8,8,8,8,8,8,8,8,8,8,8,8,8,8,8,8,8,8,8,8,8,8,8,8,8,8,8,8,8,8,8,8,8,8,8,8,8,8,8,8,8]:List UInt8)=Fq from rfl]
  by_cases h1:y≥256
  ·have e:Int.fdiv (y:Int) (2^(min (8:Int).toNat (IntKind.bits .u64)))=((y/2^8:Nat):Int):=J6 (m:=8) (by omega)
   obtain ⟨b,hb,b1,b2⟩:=SC (y:=y/2^8) (by omega)
   refine ⟨b.toNat+8,?_,by omega,fun _=> ?_⟩
   ·rw[e,aB,aj (by omega),DV (by omega) (by omega),aB,aj (by omega),Int.toNat_natCast,hb]
    simp only[Option.map_some,Option.bind_some,V.toInt_int]
    simp (disch:=omega) only[wrap64]
    congr 3
    omega
   ·obtain ⟨b3,b4⟩:=b2 (by omega)
    exact ⟨by omega,KT b4 b3⟩
  ·obtain ⟨b,hb,b1,b2⟩:=SC (y:=y) (by omega)
   refine ⟨b.toNat,?_,by omega,b2⟩
   rw[aB,ai (by omega),DV (by omega) (by omega),aB,aj (by omega),Int.toNat_natCast,hb]
   simp (disch:=omega) only[Option.map_some,Option.bind_some,V.toInt_int,wrap64]
   congr 3
 have mid: ∀y n:Nat,y<4294967296→n≤32→∃t:Nat,∀F:Int→Int→Option (List V),
   (∀y n:Nat,y<65536→n≤48→∃t:Nat,F (y:Int) (n:Int)=some [V.int .i64 ((n+t:Nat):Int)]∧t≤16∧(0<y→1≤t∧2^(t-1)≤y))→
   ∃t:Nat,uJ CC (y:Int) (n:Int) (decide (((y:Int):Int)≥65536)) (un F)=some [V.int .i64 ((n+t:Nat):Int)]∧t≤32∧(0<y→1≤t∧2^(t-1)≤y):=by
  intro y n hy hn
  refine ⟨0,fun F hF=> ?_⟩
  unfold uJ
  by_cases h1:y≥65536
  ·have e:Int.fdiv (y:Int) (2^(min (16:Int).toNat (IntKind.bits .u64)))=((y/2^16:Nat):Int):=J6 (m:=16) (by omega)
   rw[aB,aj (by omega),e,wrap64 (by omega) (by omega)]
   obtain ⟨t,U,h3,h4⟩:=hF (y/2^16) (n+16) (by omega) (by omega)
   refine ⟨t+16,?_,by omega,fun _=> ?_⟩
   ·rw[show ((n:Int)+16)=((n+16:Nat):Int) by omega]
    simp only[un]
    rw[U]
    congr 3
    omega
   ·obtain ⟨b3,b4⟩:=h4 (by omega)
    exact ⟨by omega,KT b4 b3⟩
  ·rw[aB,ai (by omega)]
   obtain ⟨t,U,h3,h4⟩:=hF y n (by omega) (by omega)
   exact ⟨t,U,by omega,h4⟩
 by_cases h1:x≥4294967296
 ·have e:Int.fdiv (x:Int) (2^(min (32:Int).toNat (IntKind.bits .u64)))=((x/2^32:Nat):Int):=J6 (m:=32) (by omega)
  obtain ⟨_,hm⟩:=mid (x/2^32) 32 (by omega) (by omega)
  obtain ⟨t,U,h3,h4⟩:=hm xG last
  refine ⟨32+t,Ss ?_,by omega,fun _=> ?_⟩
  ·show uI CC (x:Int) 0 (decide (((x:Int):Int)≥4294967296)) (un fun (su:Int) (A6:Int)=>uJ CC su A6 (decide ((su:Int)≥65536)) (un xG))=_
   unfold uI
   rw[aB,aj (by omega),e]
   exact U
  ·obtain ⟨b3,b4⟩:=h4 (by omega)
   rw[Nat.add_comm 32 t]
   exact ⟨by omega,KT b4 b3⟩
 ·obtain ⟨_,hm⟩:=mid x 0 (by omega) (by omega)
  obtain ⟨t,U,h3,h4⟩:=hm xG last
  refine ⟨t,Ss ?_,by omega,h4⟩
  show uI CC (x:Int) 0 (decide (((x:Int):Int)≥4294967296)) (un fun (su:Int) (A6:Int)=>uJ CC su A6 (decide ((su:Int)≥65536)) (un xG))=_
  unfold uI
  rw[aB,ai (by omega)]
  rw[fS] at U
  exact U
theorem SD {x:Nat} (h:x<2^64): ∃L:Nat,CC zV [.int .u64 (x:Int)]=some [.int .i64 (L:Int)]∧L≤64∧(0<x→1≤L∧2^(L-1)≤x):=by
 obtain ⟨L,h1,U⟩:=aem h
 refine ⟨L,ad7 ?_,U⟩
 unfold So
 rw[h1]
 rfl
theorem aen {x:Nat} (h0:0<x) (h:x<1152921504606846976): ∃M:Nat,CC Et [.int .i64 (x:Int)]=some [.int .u64 (M:Int)]∧1≤M∧M≤2*x:=by
 obtain ⟨L,h1,U,h3⟩:=SD (x:=x) (by omega)
 obtain ⟨h4,h5⟩:=h3 h0
 have e:2^L=2*2^(L-1):=by
  obtain ⟨k,rfl⟩: ∃k,L=k+1:=⟨L-1,by omega⟩
  rw[Nat.pow_succ];simp only[u4];omega
 have hL:L<64:=by
  by_cases hx:L<64
  ·exact hx
  ·have:2^63≤2^(L-1):=Nat.pow_le_pow_right (by omega) (by omega)
   omega
 refine ⟨2^L,ad6 ?_,Nat.pos_of_ne_zero (by simp),by omega⟩
 unfold Sn
 rw[Ag (A:=x) (by omega),h1]
 simp only[Option.bind_some,V.aR,V.toInt_int]
 rw[aB,aj (by omega),Int.toNat_natCast,Zz hL]
theorem aeo (r:Int): ∃R:Nat,CC Eu [.int .u64 r]=some [.int .u64 (R:Int),.int .u64 (R:Int)]∧R<2^64:=by
 have h: ∀n:Int,∃R:Nat,IntKind.wrap .u64 n=(R:Int)∧R<2^64:=fun n=>⟨(IntKind.wrap .u64 n).toNat,by rw[wrap_u64];omega,by rw[wrap_u64];omega⟩
 obtain ⟨R,h1,U⟩:=h _
 exact ⟨R,ad5 (by unfold Sm;rw[h1]),U⟩
theorem Fs {d:Array XE} {i:Nat} (h:i<d.size):idx (eA d) (i:Int)=some (d[i]!).enc:=by rw[Pd,fB h]
theorem KU {d:Array XE} {a b:Nat} {s:Int} (ha:a<d.size) (hb:b<d.size): ∃(x y:Nat) (s':Int),CC wJ [.list aa (eA d),.int .i64 (a:Int),.int .i64 (b:Int),.int .i64 s]=some [.int .i64 (x:Int),.int .i64 (y:Int),.int .i64 s']∧(x=a∧y=b∨x=b∧y=a):=by
 by_cases h:bN d[b]! d[a]! <0
 ·refine ⟨b,a,_,Sh (by unfold KR;rw[Fs hb,Fs ha];simp only[Option.bind_some,XE.bn,XE.bp,XE.bq,gq,V.aR,V.toInt_int];rw[aB,aj h]),.inr ⟨rfl,rfl⟩⟩
 ·refine ⟨a,b,_,Sh (by unfold KR;rw[Fs hb,Fs ha];simp only[Option.bind_some,XE.bn,XE.bp,XE.bq,gq,V.aR,V.toInt_int];rw[aB,ai h]),.inl ⟨rfl,rfl⟩⟩
theorem KV {d:Array XE} {a b c:Nat} {s:Int} (ha:a<d.size) (hb:b<d.size) (hc:c<d.size): ∃(m:Nat) (s':Int),CC z0 [.list aa (eA d),.int .i64 (a:Int),.int .i64 (b:Int),.int .i64 (c:Int),.int .i64 s]=some [.int .i64 (m:Int),.int .i64 s']∧(m=a∨m=b∨m=c):=by
 obtain ⟨x1,y1,s1,e1,o1⟩:=KU (s:=s) ha hb
 obtain ⟨x2,y2,s2,e2,o2⟩:=KU (d:=d) (a:=y1) (b:=c) (s:=s1) (by omega) hc
 obtain ⟨x3,y3,s3,e3,o3⟩:=KU (d:=d) (a:=x1) (b:=x2) (s:=s2) (by omega) (by omega)
 refine ⟨y3,s3,ad0 ?_,by omega⟩
 unfold Sg
 rw[e1]
 simp only[Option.bind_some,V.aR,V.qx,V.toInt_int,km,iP]
 rw[e2]
 simp only[Option.bind_some,V.aR,V.qx,V.toInt_int,km,iP]
 rw[e3]
 rfl
theorem KW {d:Array XE} {a:Nat} {s:Int} (h1:1≤a) (ha:a+1<d.size) (hs:d.size<1152921504606846976): ∃(m:Nat) (s':Int),CC wI [.list aa (eA d),.int .i64 (a:Int),.int .i64 s]=some [.int .i64 (m:Int),.int .i64 s']∧a≤m+1∧m≤a+1:=by
 obtain ⟨m,s',e,o⟩:=KV (d:=d) (a:=a-1) (b:=a) (c:=a+1) (s:=s) (by omega) (by omega) (by omega)
 refine ⟨m,s',ad1 ?_,by omega,by omega⟩
 unfold Si
 simp (disch:=omega) only[j9,dB,wrap64]
 rw[e]
 rfl
theorem KX (n:Nat):Int.tdiv (n:Int) 4=((n/4:Nat):Int):=by
 have:=divC n 4
 exact this
theorem mulC (k n:Nat):((k:Nat):Int)*(n:Int)=((k*n:Nat):Int):=(Int.natCast_mul k n).symm
theorem aep {d:Array XE} {a b:Nat} (eV:a+12<b) (hb:b≤d.size) (hs:d.size<1152921504606846976): ∃(p:Nat) (h:Int),CC zY [.list aa (eA d),.int .i64 (a:Int),.int .i64 (b:Int)]=some [.int .i64 (p:Int),.int .i64 h]∧a≤p∧p<b:=by
 have fin: ∀(p:Nat) (s:Int),∃h:Int,(bif (s:Int)==0 then some [V.int .i64 (p:Int),V.int .i64 1] else bif (s:Int)==12 then some [V.int .i64 (p:Int),V.int .i64 2] else some [V.int .i64 (p:Int),V.int .i64 0])=some [V.int .i64 (p:Int),V.int .i64 h]:=by
  intro p s
  rw[eL]
  split
  ·exact ⟨1,rfl⟩
  ·rw[eL]
   split
   ·exact ⟨2,rfl⟩
   ·exact ⟨0,rfl⟩
 have e1:IntKind.wrap .i64 ((b:Int)-(a:Int))=((b-a:Nat):Int):=by rw[mi (by omega),wrap64 (by omega) (by omega)]
 have e2:IntKind.wrap .i64 (Int.tdiv ((b-a:Nat):Int) 4)=(((b-a)/4:Nat):Int):=by rw[KX,wrap64 (by omega) (by omega)]
 have e3: ∀k:Nat,k≤3→IntKind.wrap .i64 ((a:Int)+IntKind.wrap .i64 ((k:Int)*(((b-a)/4:Nat):Int)))=((a+k*((b-a)/4):Nat):Int):=by
  intro k hk
  have lY:k*((b-a)/4)≤3*((b-a)/4):=dp _ hk
  simp (disch:=omega) only[mulC,wrap64,fC]
 have KY:=e3 1 (by omega)
 have sw:=e3 2 (by omega)
 have KZ:=e3 3 (by omega)
 rw[show ((1:Nat):Int)=1 from rfl] at KY
 rw[show ((2:Nat):Int)=2 from rfl] at sw
 rw[show ((3:Nat):Int)=3 from rfl] at KZ
 by_cases h50:b-a≥50
 ·obtain ⟨m1,s1,q1,r1⟩:=KW (d:=d) (a:=a+1*((b-a)/4)) (s:=0) (by omega) (by omega) hs
  obtain ⟨m2,s2,q2,r2⟩:=KW (d:=d) (a:=a+2*((b-a)/4)) (s:=s1) (by omega) (by omega) hs
  obtain ⟨m3,s3,q3,r3⟩:=KW (d:=d) (a:=a+3*((b-a)/4)) (s:=s2) (by omega) (by omega) hs
  obtain ⟨m,s,q,r⟩:=KV (d:=d) (a:=m1) (b:=m2) (c:=m3) (s:=s3) (by omega) (by omega) (by omega)
  obtain ⟨h,hf⟩:=fin m s
  refine ⟨m,h,Sf ?_,by omega,by omega⟩
  unfold KP A3 A1
  rw[e1,e2,KY,sw,KZ,m9 (by omega),cond_true,m9 (by omega),cond_true,q1]
  simp only[Option.bind_some,V.aR,V.qx,V.toInt_int,km,iP]
  rw[q2]
  simp only[Option.bind_some,V.aR,V.qx,V.toInt_int,km,iP]
  rw[q3]
  simp only[Option.bind_some,V.aR,V.qx,V.toInt_int,km,iP,un]
  rw[q]
  exact hf
 ·obtain ⟨m,s,q,r⟩:=KV (d:=d) (a:=a+1*((b-a)/4)) (b:=a+2*((b-a)/4)) (c:=a+3*((b-a)/4)) (s:=0) (by omega) (by omega) (by omega)
  obtain ⟨h,hf⟩:=fin m s
  refine ⟨m,h,Sf ?_,by omega,by omega⟩
  unfold KP A3 A1
  rw[e1,e2,KY,sw,KZ,m9 (by omega),cond_true,sj (by omega),cond_false]
  simp only[un]
  rw[q]
  exact hf
theorem aeq {a b M:Nat} (hM1:1≤M) (hM:M≤2*(b-a)) (h8:8≤b-a) (hB:b<1152921504606846976): ∀(n i:Nat) (d:Array XE) (r:Int),a+2*((b-a)/4)+2-i=n→a≤i→b≤d.size→d.size<1152921504606846976→
  ∃x y z R,Loop (Fm CC a (b-a:Nat) M) ((i:Int),eA d,r)=some (x,y,eA R,z)∧PermIn a b d R:=by
 have e2:IntKind.wrap .i64 (Int.tdiv ((b-a:Nat):Int) 4)=(((b-a)/4:Nat):Int):=by rw[KX,wrap64 (by omega) (by omega)]
 have sw:IntKind.wrap .i64 ((a:Int)+IntKind.wrap .i64 (2*(((b-a)/4:Nat):Int)))=((a+2*((b-a)/4):Nat):Int):=by
  have:=mulC 2 ((b-a)/4)
  rw[show ((2:Nat):Int)=2 from rfl] at this
  rw[this]
  simp (disch:=omega) only[wrap64,fC]
 intro n
 induction n with
 | zero=>
  intro i d r hn hi hb hs
  refine ⟨(i:Int),false,r,d,bd ?_,permIn_refl _ _ _⟩
  simp only[Fm,A5,un]
  rw[e2,sw,dB,wrap64 (by omega) (by omega),sj (by omega),cond_false]
 | succ n ih=>
  intro i d r hn hi hb hs
  obtain ⟨R1,q1,q2⟩:=aeo r
  obtain ⟨o,ho,k0⟩: ∃o:Nat,(o=if R1&&&(M-1)≥b-a then (R1&&&(M-1))-(b-a) else R1&&&(M-1))∧o<b-a:=by
   refine ⟨_,rfl,?_⟩
   have:R1&&&(M-1)≤M-1:=Nat.and_le_right
   split<;>omega
  have hand:R1&&&(M-1)≤M-1:=Nat.and_le_right
  have hP:=swp_permIn (α:=XE) d a b i (a+o) hi (by omega) (by omega) (by omega) hb
  obtain ⟨x,y,z,R,e,hR⟩:=ih (i+1) (swp d i (a+o)) (R1:Int) (by omega) (by omega) (by rw[size_swp];exact hb) (by rw[size_swp];exact hs)
  refine ⟨x,y,z,R,(bR ?_).trans e,permIn_trans _ _ _ a b hP hR⟩
  simp only[Fm,A5,un]
  rw[e2,sw,dB,wrap64 (x:=((a+2*((b-a)/4)+1:Nat):Int)) (by omega) (by omega),m9 (by omega),cond_true,q1]
  simp only[Option.bind_some,V.aR,V.qx,V.toInt_int,km,iP]
  have e5:IntKind.wrap .u64 ((M:Int)-1)=((M-1:Nat):Int):=by rw[j9 hM1,Ag (by omega)]
  rw[e5,u64_and q2 (by omega),wrap64 (x:=((R1&&&(M-1):Nat):Int)) (by omega) (by omega)]
  have fin: ∀k:Int,k=(o:Int)→(bif (decide (0≤(IntKind.wrap .i64 ((a:Int)+k))))&&(decide ((IntKind.wrap .i64 ((a:Int)+k))<((eA d).length:Int))) then
   ((eA d)[(IntKind.wrap .i64 ((a:Int)+k):Int).toNat]?).bind fun x4=>
   bif (decide (0≤(i:Int)))&&(decide ((i:Int)<((eA d).length:Int))) then
    ((eA d)[((i:Int):Int).toNat]?).bind fun x5=>
    bif (decide (0≤(i:Int)))&&(decide ((i:Int)<((eA d).length:Int))) then
    ((eA d)[((i:Int):Int).toNat]?).bind fun x6=>
    bif (decide (0≤(IntKind.wrap .i64 ((a:Int)+k))))&&(decide ((IntKind.wrap .i64 ((a:Int)+k))<(((eA d).set (((i:Int):Int).toNat) (.agg [.int .i64 ((x4.cell 0).toInt),.int .i64 ((x4.cell 1).toInt),.list aa ((x4.cell 2).toList)])).length:Int))) then
     (((eA d).set (((i:Int):Int).toNat) (.agg [.int .i64 ((x4.cell 0).toInt),.int .i64 ((x4.cell 1).toInt),.list aa ((x4.cell 2).toList)]))[(IntKind.wrap .i64 ((a:Int)+k):Int).toNat]?).bind fun x7=>
     some (.inl (IntKind.wrap .i64 ((i:Int)+1),((eA d).set (((i:Int):Int).toNat) (.agg [.int .i64 ((x4.cell 0).toInt),.int .i64 ((x4.cell 1).toInt),.list aa ((x4.cell 2).toList)])).set ((IntKind.wrap .i64 ((a:Int)+k):Int).toNat) (.agg [.int .i64 ((x5.cell 0).toInt),.int .i64 ((x5.cell 1).toInt),.list aa ((x5.cell 2).toList)]),(R1:Int)))
    else none
    else none
   else none
   else none:Option ((Int × List V × Int) ⊕ (Int × Bool × List V × Int)))=some (.inl (((i+1:Nat):Int),eA (swp d i (a+o)),(R1:Int))):=by
   intro k hk
   subst hk
   simp (disch:=omega) only[aB,dj,hX,aj,ai,wrap64,dB,fC,Int.toNat_natCast,Option.bind_some,fy,fB,XE.bn,XE.bp,XE.bq,XE.re,fA,ib,gz,gq,V.aR,V.toInt_int,cond_true,cond_false]
   rfl
  unfold Fl
  by_cases h:R1&&&(M-1)≥b-a
  ·rw[aj h] at ho
   rw[m9 (by omega),cond_true]
   exact fin _ (by rw[mi (by omega),wrap64 (by omega) (by omega)];omega)
  ·rw[ai h] at ho
   rw[sj (by omega),cond_false]
   exact fin _ (by omega)
theorem aer {a b:Nat} {d:Array XE} (eV:a+12<b) (hb:b≤d.size) (hs:d.size<1152921504606846976): ∃R,CC En [.int .i64 (a:Int),.int .i64 (b:Int),.list aa (eA d)]=some [.list aa (eA R)]∧PermIn a b d R:=by
 obtain ⟨M,q1,q2,q3⟩:=aen (x:=b-a) (by omega) (by omega)
 have e1:IntKind.wrap .i64 ((b:Int)-(a:Int))=((b-a:Nat):Int):=by rw[mi (by omega),wrap64 (by omega) (by omega)]
 have e2:IntKind.wrap .i64 (Int.tdiv ((b-a:Nat):Int) 4)=(((b-a)/4:Nat):Int):=by rw[KX,wrap64 (by omega) (by omega)]
 have sw:IntKind.wrap .i64 ((a:Int)+IntKind.wrap .i64 (2*(((b-a)/4:Nat):Int)))=((a+2*((b-a)/4):Nat):Int):=by
  have:=mulC 2 ((b-a)/4)
  rw[show ((2:Nat):Int)=2 from rfl] at this
  rw[this]
  simp (disch:=omega) only[wrap64,fC]
 obtain ⟨x,y,z,R,e,hR⟩:=aeq (a:=a) (b:=b) (M:=M) q2 q3 (by omega) (by omega) _ (a+2*((b-a)/4)-1) d (IntKind.wrap .u64 ((b-a:Nat):Int)) rfl (by omega) hb hs
 refine ⟨R,ad4 ?_,hR⟩
 unfold Sl
 rw[e1,aB,aj (by omega),q1]
 simp only[Option.bind_some,V.aR,V.toInt_int]
 rw[e2,sw,j9 (by omega),wrap64 (x:=((a+2*((b-a)/4)-1:Nat):Int)) (by omega) (by omega),e]
 rfl
noncomputable def sy (C:ag) (a b':Int) (eu eQ:Bool) (cE dC:Int) (mj:List V) {β:Type} (kn:(Int × Int × Int × Bool × Bool × (List V))→Option β):Option β:=
      bif decide ((a:Int)>0) then
       bif (decide (0≤(IntKind.wrap .i64 (a-1))))&&(decide ((IntKind.wrap .i64 (a-1))<(mj.length:Int))) then
       (mj[(IntKind.wrap .i64 (a-1):Int).toNat]?).bind fun jC=>
       bif (decide (0≤dC))&&(decide (dC<(mj.length:Int))) then
        (mj[(dC:Int).toNat]?).bind fun nf=>
        (C a9 [.int .i64 ((jC.cell 0).toInt),.int .i64 ((jC.cell 1).toInt),.list aa ((jC.cell 2).toList),.int .i64 ((nf.cell 0).toInt),.int .i64 ((nf.cell 1).toInt),.list aa ((nf.cell 2).toList)]).bind fun ng=>
        bif !(decide ((((V.nth ng 0).toInt):Int)<0)) then
        (C ua [.int .i64 a,.int .i64 b',.int .i64 dC,.list aa mj]).bind fun fF=>
        kn ((V.nth fF 0).toInt,b',cE,eu,eQ,(V.nth (fF.drop 1) 0).toList)
        else
        (C mW [.int .i64 a,.int .i64 b',.int .i64 dC,.list aa mj]).bind fun dU=>
        bif decide (((IntKind.wrap .i64 (((V.nth dU 0).toInt)-a)):Int)<(IntKind.wrap .i64 (b'-((V.nth dU 0).toInt)))) then
         (C gd [.int .i64 a,.int .i64 ((V.nth dU 0).toInt),.int .i64 cE,.list aa ((V.nth (dU.drop 2) 0).toList)]).bind fun jF=>
         kn (IntKind.wrap .i64 (((V.nth dU 0).toInt)+1),b',cE,decide (((IntKind.wrap .i64 (((V.nth dU 0).toInt)-a)):Int)≥(IntKind.wrap .i64 (Int.tdiv (IntKind.wrap .i64 (b'-a)) 8))),(V.nth (dU.drop 1) 0).toBool,(V.nth jF 0).toList)
        else
         (C gd [.int .i64 (IntKind.wrap .i64 (((V.nth dU 0).toInt)+1)),.int .i64 b',.int .i64 cE,.list aa ((V.nth (dU.drop 2) 0).toList)]).bind fun ep=>
         kn (a,(V.nth dU 0).toInt,cE,decide (((IntKind.wrap .i64 (b'-((V.nth dU 0).toInt))):Int)≥(IntKind.wrap .i64 (Int.tdiv (IntKind.wrap .i64 (b'-a)) 8))),(V.nth (dU.drop 1) 0).toBool,(V.nth ep 0).toList)
       else none
       else none
      else
       (C mW [.int .i64 a,.int .i64 b',.int .i64 dC,.list aa mj]).bind fun jk=>
       bif decide (((IntKind.wrap .i64 (((V.nth jk 0).toInt)-a)):Int)<(IntKind.wrap .i64 (b'-((V.nth jk 0).toInt)))) then
       (C gd [.int .i64 a,.int .i64 ((V.nth jk 0).toInt),.int .i64 cE,.list aa ((V.nth (jk.drop 2) 0).toList)]).bind fun ox=>
       kn (IntKind.wrap .i64 (((V.nth jk 0).toInt)+1),b',cE,decide (((IntKind.wrap .i64 (((V.nth jk 0).toInt)-a)):Int)≥(IntKind.wrap .i64 (Int.tdiv (IntKind.wrap .i64 (b'-a)) 8))),(V.nth (jk.drop 1) 0).toBool,(V.nth ox 0).toList)
       else
       (C gd [.int .i64 (IntKind.wrap .i64 (((V.nth jk 0).toInt)+1)),.int .i64 b',.int .i64 cE,.list aa ((V.nth (jk.drop 2) 0).toList)]).bind fun ka=>
       kn (a,(V.nth jk 0).toInt,cE,decide (((IntKind.wrap .i64 (b'-((V.nth jk 0).toInt))):Int)≥(IntKind.wrap .i64 (Int.tdiv (IntKind.wrap .i64 (b'-a)) 8))),(V.nth (jk.drop 1) 0).toBool,(V.nth ka 0).toList)
theorem Ft (C:ag) (a b' ji:Int) (eu eQ:Bool) (ak:List V) {β:Type} (kn:(Int × Int × Int × Bool × Bool × (List V))→Option β) (kr:(List V)→Option β):
  pt C a b' ji eu eQ ak kn kr=
 bif decide (((IntKind.wrap .i64 (b'-a)):Int)≤12) then
  (C zW [.int .i64 a,.int .i64 b',.list aa ak]).bind fun r1=>
  kr ((V.nth r1 0).toList)
 else
  bif (ji:Int)==0 then
  (C zX [.int .i64 a,.int .i64 b',.list aa ak]).bind fun r2=>
  kr ((V.nth r2 0).toList)
  else
  xD C a b' ji eu eQ (IntKind.wrap .i64 (b'-a)) (!eu) ak (un fun (cE:Int) (A8:List V)=>
   (C zY [.list aa A8,.int .i64 a,.int .i64 b']).bind fun r6=>
   xE C a b' cE eu eQ (IntKind.wrap .i64 (b'-a)) ((V.nth r6 0).toInt) ((V.nth (r6.drop 1) 0).toInt) ((((V.nth (r6.drop 1) 0).toInt):Int)==2) A8 (un fun (dC:Int)=>un fun (KS:Int) (ou:List V)=>
    bif eu then
     bif eQ then
     mn C a b' cE eu eQ (IntKind.wrap .i64 (b'-a)) dC ((KS:Int)==1) ou (bX (un fun (Qe:Bool) (K0:List V)=>
      kr K0) (fun (mj:List V)=>sy C a b' eu eQ cE dC mj kn))
     else
     mn C a b' cE eu eQ (IntKind.wrap .i64 (b'-a)) dC false ou (bX (un fun (Qk:Bool) (aes:List V)=>
      kr aes) (fun (aet:List V)=>sy C a b' eu eQ cE dC aet kn))
    else
     mn C a b' cE eu eQ (IntKind.wrap .i64 (b'-a)) dC false ou (bX (un fun (ZS:Bool) (aeu:List V)=>
      kr aeu) (fun (aev:List V)=>sy C a b' eu eQ cE dC aev kn)))):=rfl
section
variable {a b:Nat} {lim:Int} {wb wp:Bool}
theorem aew {d:Array XE} (eV:a+12<b) (hb:b≤d.size) (hs:d.size<1152921504606846976) (len:Int) (t:Bool): ∃(l1:Int) (d1:Array XE),PermIn a b d d1∧∀(β:Type) (kr:(Int × List V)→Option β),xD CC a b lim wb wp len t (eA d) kr=kr (l1,eA d1):=by
 cases t with
 | true=>
  obtain ⟨R,e,hR⟩:=aer eV hb hs
  refine ⟨IntKind.wrap .i64 (lim-1),R,hR,fun β kr=> ?_⟩
  unfold xD
  rw[cond_true,e]
  rfl
 | false=>exact ⟨lim,d,permIn_refl _ _ _,fun β kr=>rfl⟩
theorem aex {d:Array XE} (eV:a+12<b) (hb:b≤d.size) (hs:d.size<1152921504606846976) (len h:Int) (t:Bool) {p:Nat} (h1:a≤p) (U:p<b): ∃(p2:Nat) (U:Int) (d1:Array XE),a≤p2∧p2<b∧PermIn a b d d1∧∀(β:Type) (kr:(Int × Int × List V)→Option β),xE CC a b lim wb wp len p h t (eA d) kr=kr ((p2:Int),U,eA d1):=by
 cases t with
 | true=>
  refine ⟨b-1-(p-a),1,reverseRange d a b,by omega,by omega,reverseRange_holds d a b (by omega) hb,fun β kr=> ?_⟩
  unfold xE
  rw[cond_true,ado (by omega) hb hs]
  simp (disch:=omega) only[Option.bind_some,V.aR,V.ln,j9,mi,wrap64]
 | false=>exact ⟨p,h,d,h1,U,permIn_refl _ _ _,fun β kr=>rfl⟩
theorem aey {d:Array XE} (eV:a+12<b) (hb:b≤d.size) (hs:d.size<1152921504606846976) (hB:Below ay a b d) (len p:Int) (t:Bool): ∃d1:Array XE,PermIn a b d d1∧
  ((∀(β:Type) (kr:((Bool × List V) ⊕ List V)→Option β),mn CC a b lim wb wp len p t (eA d) kr=kr (.inr (eA d1)))∨
  (SortedIn ay a b d1∧∀(β:Type) (kr:((Bool × List V) ⊕ List V)→Option β),mn CC a b lim wb wp len p t (eA d) kr=kr (.inl (true,eA d1)))):=by
 cases t with
 | true=>
  have hp:=partialInsertionSort_holds (lt:=ay) xF d a b (by omega) hb hB
  refine ⟨_,hp.1,?_⟩
  cases h:(partialInsertionSort ay d a b).2 with
  | true=>
   refine .inr ⟨hp.2 h,fun β kr=> ?_⟩
   unfold mn
   rw[cond_true,Sa (by omega) hb hs,h]
   rfl
  | false=>
   refine .inl fun β kr=> ?_
   unfold mn
   rw[cond_true,Sa (by omega) hb hs,h]
   rfl
 | false=>exact ⟨d,permIn_refl _ _ _,.inl fun β kr=>rfl⟩
end
def Fu (a b:Nat) (d:Array XE):Prop:= ∀(lim:Int) (wb wp:Bool),∃R,Loop (Sw CC) ((a:Int),(b:Int),lim,wb,wp,eA d)=some (eA R)∧PermIn a b d R∧SortedIn ay a b R
theorem Fu.call {a b:Nat} {d:Array XE} (h:Fu a b d) (lim:Int): ∃R,CC gd [.int .i64 (a:Int),.int .i64 (b:Int),.int .i64 lim,.list aa (eA d)]=some [.list aa (eA R)]∧PermIn a b d R∧SortedIn ay a b R:=by
 obtain ⟨R,e,h1,U⟩:=h lim true true
 refine ⟨R,aei ?_,h1,U⟩
 unfold Sz
 rw[e]
 rfl
theorem aez {a b p:Nat} {d:Array XE} (eV:a+12<b) (hb:b≤d.size) (hs:d.size<1152921504606846976) (hB:Below ay a b d) (h1:a≤p) (U:p<b)
  (ih: ∀(a2 b2:Nat) (d2:Array XE),b2-a2<b-a→a2≤b2→b2≤d2.size→d2.size<1152921504606846976→Below ay a2 b2 d2→Fu a2 b2 d2) (wb wp:Bool) (lim:Int):
  ∃(a2 b2:Nat) (uL uM:Bool) (d2:Array XE),b2-a2<b-a∧a2≤b2∧b2≤d2.size∧d2.size<1152921504606846976∧Below ay a2 b2 d2∧
   (∀R,PermIn a2 b2 d2 R→SortedIn ay a2 b2 R→PermIn a b d R∧SortedIn ay a b R)∧
   ∀(β:Type) (kn:(Int × Int × Int × Bool × Bool × (List V))→Option β),sy CC a b wb wp lim p (eA d) kn=kn ((a2:Int),(b2:Int),lim,uL,uM,eA d2):=by
 have part: ∃(a2 b2:Nat) (uL uM:Bool) (d2:Array XE),b2-a2<b-a∧a2≤b2∧b2≤d2.size∧d2.size<1152921504606846976∧Below ay a2 b2 d2∧
   (∀R,PermIn a2 b2 d2 R→SortedIn ay a2 b2 R→PermIn a b d R∧SortedIn ay a b R)∧
   ∀(β:Type) (kn:(Int × Int × Int × Bool × Bool × (List V))→Option β),
    ((CC mW [.int .i64 (a:Int),.int .i64 (b:Int),.int .i64 (p:Int),.list aa (eA d)]).bind fun dU=>
        bif decide (((IntKind.wrap .i64 (((V.nth dU 0).toInt)-(a:Int))):Int)<(IntKind.wrap .i64 ((b:Int)-((V.nth dU 0).toInt)))) then
         (CC gd [.int .i64 (a:Int),.int .i64 ((V.nth dU 0).toInt),.int .i64 lim,.list aa ((V.nth (dU.drop 2) 0).toList)]).bind fun jF=>
         kn (IntKind.wrap .i64 (((V.nth dU 0).toInt)+1),(b:Int),lim,decide (((IntKind.wrap .i64 (((V.nth dU 0).toInt)-(a:Int))):Int)≥(IntKind.wrap .i64 (Int.tdiv (IntKind.wrap .i64 ((b:Int)-(a:Int))) 8))),(V.nth (dU.drop 1) 0).toBool,(V.nth jF 0).toList)
        else
         (CC gd [.int .i64 (IntKind.wrap .i64 (((V.nth dU 0).toInt)+1)),.int .i64 (b:Int),.int .i64 lim,.list aa ((V.nth (dU.drop 2) 0).toList)]).bind fun ep=>
         kn ((a:Int),(V.nth dU 0).toInt,lim,decide (((IntKind.wrap .i64 ((b:Int)-((V.nth dU 0).toInt))):Int)≥(IntKind.wrap .i64 (Int.tdiv (IntKind.wrap .i64 ((b:Int)-(a:Int))) 8))),(V.nth (dU.drop 1) 0).toBool,(V.nth ep 0).toList))=kn ((a2:Int),(b2:Int),lim,uL,uM,eA d2):=by
  obtain ⟨mid,ap,d4,hx⟩: ∃mid ap d4,partition ay d a b p=(mid,ap,d4):=⟨_,_,_,rfl⟩
  obtain ⟨g1,g2,oy,hBa,hBr,aeA,aeB⟩:=round_part xF (partition_holds ay) h1 U hb hB hx
  have hc:=adP (a:=a) (b:=b) (pivot:=p) (d:=d) U (by omega) hb hs
  rw[hx] at hc
  by_cases hl:mid-a<b-mid
  ·obtain ⟨L,e,l1,l2⟩:=(ih a mid d4 (by omega) g1 (by rw[oy];omega) (by rw[oy];exact hs) hBa).call lim
   obtain ⟨K1,pw⟩:=aeA _ l1 l2
   refine ⟨mid+1,b,decide (((IntKind.wrap .i64 ((mid:Int)-(a:Int))):Int)≥(IntKind.wrap .i64 (Int.tdiv (IntKind.wrap .i64 ((b:Int)-(a:Int))) 8))),ap,L,by omega,by omega,by rw[l1.1,oy];exact hb,by rw[l1.1,oy];exact hs,K1,pw,fun β kn=> ?_⟩
   ·rw[hc]
    simp only[Option.bind_some,V.aR,V.qx,V.toInt_int,V.dy,V.ln,km,iP]
    rw[aB,aj (by rw[mi g1,mi (by omega),wrap64 (by omega) (by omega),wrap64 (by omega) (by omega)];omega),e]
    simp only[Option.bind_some,V.aR,V.ln]
    rw[dB,wrap64 (x:=((mid+1:Nat):Int)) (by omega) (by omega)]
  ·obtain ⟨L,e,l1,l2⟩:=(ih (mid+1) b d4 (by omega) (by omega) (by rw[oy];exact hb) (by rw[oy];exact hs) hBr).call lim
   obtain ⟨K1,pw⟩:=aeB _ l1 l2
   refine ⟨a,mid,decide (((IntKind.wrap .i64 ((b:Int)-(mid:Int))):Int)≥(IntKind.wrap .i64 (Int.tdiv (IntKind.wrap .i64 ((b:Int)-(a:Int))) 8))),ap,L,by omega,by omega,by rw[l1.1,oy];omega,by rw[l1.1,oy];exact hs,K1,pw,fun β kn=> ?_⟩
   ·rw[hc]
    simp only[Option.bind_some,V.aR,V.qx,V.toInt_int,V.dy,V.ln,km,iP]
    rw[aB,ai (by rw[mi g1,mi (by omega),wrap64 (by omega) (by omega),wrap64 (by omega) (by omega)];omega),dB,wrap64 (x:=((mid+1:Nat):Int)) (by omega) (by omega),e]
    simp only[Option.bind_some,V.aR,V.ln]
 by_cases ha:0<a
 ·by_cases hc:bN d[a-1]! d[p]! <0
  ·obtain ⟨a2,b2,uL,uM,d2,q1,q2,q3,q4,q5,q6,q7⟩:=part
   refine ⟨a2,b2,uL,uM,d2,q1,q2,q3,q4,q5,q6,fun β kn=> ?_⟩
   rw[←q7 β kn]
   unfold sy
   rw[aB,aj (by omega),j9 ha,wrap64 (by omega) (by omega),kb (i:=a-1) (by omega),kf (by omega),kb (i:=p) (by omega),kf (by omega)]
   simp only[XE.bn,XE.bp,XE.bq,gq,Option.bind_some,V.aR,V.toInt_int]
   rw[hX,aB,aj hc]
  ·obtain ⟨mid,d4,hx⟩: ∃mid d4,partitionEqual ay d a b p=(mid,d4):=⟨_,_,rfl⟩
   obtain ⟨g1,GV,oy,hB4,pw⟩:=round_eq xF (partitionEqual_holds ay) ha h1 U hb hB (by rw[Fp,←propext (aek _ _)];exact hc) hx
   have he:=adR (a:=a) (b:=b) (pivot:=p) (d:=d) U (by omega) hb hs
   rw[hx] at he
   refine ⟨mid,b,wb,wp,d4,by omega,GV,by rw[oy];exact hb,by rw[oy];exact hs,hB4,pw,fun β kn=> ?_⟩
   unfold sy
   rw[aB,aj (by omega),j9 ha,wrap64 (by omega) (by omega),kb (i:=a-1) (by omega),kf (by omega),kb (i:=p) (by omega),kf (by omega)]
   simp only[XE.bn,XE.bp,XE.bq,gq,Option.bind_some,V.aR,V.toInt_int]
   rw[hX,aB,ai hc,he]
   rfl
 ·obtain ⟨a2,b2,uL,uM,d2,q1,q2,q3,q4,q5,q6,q7⟩:=part
  refine ⟨a2,b2,uL,uM,d2,q1,q2,q3,q4,q5,q6,fun β kn=> ?_⟩
  rw[←q7 β kn]
  unfold sy
  rw[aB,ai (by omega)]
theorem aeC: ∀(n a b:Nat) (d:Array XE),b-a≤n→a≤b→b≤d.size→d.size<1152921504606846976→Below ay a b d→Fu a b d:=by
 intro n
 induction n with
 | zero=>
  intro a b d hn eV hb hs hB lim wb wp
  have hi:=insertionSort_holds (lt:=ay) xF d a b eV hb
  refine ⟨_,bd ?_,hi⟩
  show pt CC a b lim wb wp (eA d) (fun y=>some (Sum.inl y)) (fun r=>some (Sum.inr r))=_
  rw[Ft,aB,aj (by rw[mi eV,wrap64 (by omega) (by omega)];omega),RQ hb hs (by omega)]
  rfl
 | succ n ih=>
  intro a b d hn eV hb hs hB lim wb wp
  by_cases h12:b-a≤12
  ·have hi:=insertionSort_holds (lt:=ay) xF d a b eV hb
   refine ⟨_,bd ?_,hi⟩
   show pt CC a b lim wb wp (eA d) (fun y=>some (Sum.inl y)) (fun r=>some (Sum.inr r))=_
   rw[Ft,aB,aj (by rw[mi eV,wrap64 (by omega) (by omega)];omega),RQ hb hs (by omega)]
   rfl
  ·have A9:a+12<b:=by omega
   have rT: ¬(((IntKind.wrap .i64 ((b:Int)-(a:Int))):Int)≤12):=by rw[mi eV,wrap64 (by omega) (by omega)];omega
   by_cases h0:lim=0
   ·have hi:=heapSort_holds (lt:=ay) xF d a b eV hb
    refine ⟨_,bd ?_,hi⟩
    show pt CC a b lim wb wp (eA d) (fun y=>some (Sum.inl y)) (fun r=>some (Sum.inr r))=_
    rw[Ft,aB,ai rT,eL,aj h0,adm (by omega) hb hs]
    rfl
   ·obtain ⟨l1,d1,s1,k1⟩:=aew (lim:=lim) (wb:=wb) (wp:=wp) A9 hb hs (IntKind.wrap .i64 ((b:Int)-(a:Int))) (!wb)
    have b1:b≤d1.size:=by rw[s1.1];exact hb
    have z1:d1.size<1152921504606846976:=by rw[s1.1];exact hs
    obtain ⟨p,h,c1,p1,p2⟩:=aep A9 b1 z1
    obtain ⟨q,U,d2,q1,q2,s2,k2⟩:=aex (lim:=l1) (wb:=wb) (wp:=wp) A9 b1 z1 (IntKind.wrap .i64 ((b:Int)-(a:Int))) h (h==2) p1 p2
    have b2:b≤d2.size:=by rw[s2.1];exact b1
    have z2:d2.size<1152921504606846976:=by rw[s2.1];exact z1
    have B2:Below ay a b d2:=(hB.perm hb s1).perm b1 s2
    obtain ⟨t,ht⟩: ∃t:Bool,t=(bif wb then (bif wp then (U==1) else false) else false):=⟨_,rfl⟩
    obtain ⟨d3,s3,k3⟩:=aey (lim:=l1) (wb:=wb) (wp:=wp) A9 b2 z2 B2 (IntKind.wrap .i64 ((b:Int)-(a:Int))) (q:Int) t
    have b3:b≤d3.size:=by rw[s3.1];exact b2
    have z3:d3.size<1152921504606846976:=by rw[s3.1];exact z2
    have B3:Below ay a b d3:=B2.perm b2 s3
    have P3:PermIn a b d d3:=permIn_trans _ _ _ a b (permIn_trans _ _ _ a b s1 s2) s3
    have step: ∀(β:Type) (kn:(Int × Int × Int × Bool × Bool × (List V))→Option β) (kr:(List V)→Option β),pt CC a b lim wb wp (eA d) kn kr=
      mn CC a b l1 wb wp (IntKind.wrap .i64 ((b:Int)-(a:Int))) (q:Int) t (eA d2) (bX (un fun (Qe:Bool) (K0:List V)=>kr K0) (fun (mj:List V)=>sy CC a b wb wp l1 q mj kn)):=by
     intro β kn kr
     rw[Ft,aB,ai rT,eL,ai h0,k1]
     simp only[un]
     rw[c1]
     simp only[Option.bind_some,V.aR,V.qx,V.toInt_int,km,iP]
     rw[k2]
     simp only[un]
     rw[ht]
     cases wb
     ·rfl
     ·cases wp
      ·rfl
      ·rfl
    rcases k3 with k3|⟨k3s,k3⟩
    ·obtain ⟨a4,b4,wb4,wp4,d4,r1,r2,r3,r4,r5,r6,r7⟩:=aez A9 b3 z3 B3 q1 q2 (fun a2 b2 d2 aO h1 U h3 h4=>ih a2 b2 d2 (by omega) h1 U h3 h4) wb wp l1
     obtain ⟨R,e,e1,e2⟩:=ih a4 b4 d4 (by omega) r2 r3 r4 r5 l1 wb4 wp4
     obtain ⟨f1,f2⟩:=r6 R e1 e2
     refine ⟨R,(bR ?_).trans e,permIn_trans _ _ _ a b P3 f1,f2⟩
     show pt CC a b lim wb wp (eA d) (fun y=>some (Sum.inl y)) (fun r=>some (Sum.inr r))=_
     rw[step,k3]
     exact r7 _ (fun y=>some (Sum.inl y))
    ·refine ⟨d3,bd ?_,P3,k3s⟩
     show pt CC a b lim wb wp (eA d) (fun y=>some (Sum.inl y)) (fun r=>some (Sum.inr r))=_
     rw[step,k3]
     rfl
theorem aeD (l:List XE) (hs:l.length<1152921504606846976): ∃R:List XE,CC zU [.list aa (l.map XE.enc)]=some [.list aa (R.map XE.enc)]∧R.Perm l∧R.Pairwise (fun x y=> ¬y.lt x):=by
 obtain ⟨L,e1,_⟩:=SD (x:=l.length) (by omega)
 obtain ⟨R,e2,h1,U⟩:=(aeC _ 0 l.toArray.size l.toArray (cf _) (kh _) (cf _) (by simpa using hs) (.inl rfl)).call (L:Int)
 have aU:R.size=l.length:=by rw[h1.1];simp
 refine ⟨R.toList,aej ?_,?_,?_⟩
 ·unfold SA
  rw[ba,Ag (A:=l.length) (by omega),e1]
  simp only[Option.bind_some,V.aR,V.toInt_int]
  have e3:eA l.toArray=l.map XE.enc:=by simp[pn]
  rw[e3,show ((l.toArray.size:Nat):Int)=(l.length:Int) by simp,show ((0:Nat):Int)=0 from rfl] at e2
  rw[e2]
  rfl
 ·have h3:=h1.2.2
  rw[show l.toArray.size=R.size from h1.1.symm,Array.extract_size,h1.1,Array.extract_size] at h3
  exact h3
 ·rw[BW]
  intro i j hi hj tx
  have h3:=U i j (kh _) tx (by simpa[←aU] using hj)
  rw[Fp] at h3
  have dK:i<R.size:=by simpa using hi
  have fZ:j<R.size:=by simpa using hj
  rw[getElem!_pos R i dK,getElem!_pos R j fZ] at h3
  simpa using h3
end Go.AM.SX
set_option maxRecDepth 100000
namespace Go.AM
open Go.Proofs
noncomputable abbrev Fv:Code:=cL Try.prog (ax.aX 106)
noncomputable def xH (C:ag) (Ba uN:Nat) (k' kg:Int) (ss:List V) {β:Type} (kn:(Int × Int × (List V))→Option β) (kr:(Int × Int × Bool × (List V))→Option β):Option β:=
 bif decide ((kg:Int)<(uN:Int)) then
  bif (decide (0≤kg))&&(decide (kg<(uN:Int))) then
  (ss[Ba+((kg:Int).toNat)]?).bind fun x4=>
  bif (decide (0≤(IntKind.wrap .i64 (kg-1))))&&(decide ((IntKind.wrap .i64 (kg-1))<(uN:Int))) then
   (ss[Ba+((IntKind.wrap .i64 (kg-1):Int).toNat)]?).bind fun x5=>
   (C pd [.int .i64 ((x4.cell 0).toInt),.int .i64 ((x4.cell 1).toInt),.list aa ((x4.cell 2).toList),.int .i64 ((x5.cell 0).toInt),.int .i64 ((x5.cell 1).toInt),.list aa ((x5.cell 2).toList)]).bind fun r6=>
   bif !((V.nth r6 0).toBool) then
   bif (decide (0≤kg))&&(decide (kg<(uN:Int))) then
    (ss[Ba+((kg:Int).toNat)]?).bind fun x7=>
    bif (decide (0≤k'))&&(decide (k'<(ss.length:Int))) then
    (ss[(k':Int).toNat]?).bind fun x8=>
    kn (IntKind.wrap .i64 (k'+1),IntKind.wrap .i64 (kg+1),ss.set ((k':Int).toNat) (.agg [.int .i64 ((x7.cell 0).toInt),.int .i64 ((x7.cell 1).toInt),.list aa ((x7.cell 2).toList)]))
    else none
   else none
   else
   kn (k',IntKind.wrap .i64 (kg+1),ss)
  else none
  else none
 else
  kr (k',kg,decide ((kg:Int)<(uN:Int)),ss)
noncomputable def uO (C:ag) (Ba uN:Nat):(Int × Int × (List V))→Option ((Int × Int × (List V)) ⊕ (Int × Int × Bool × (List V))):=un fun k'=>un fun kg ss=>xH C Ba uN k' kg ss (fun y=>some (.inl y)) (fun r=>some (.inr r))
noncomputable def xI (C:ag) (ss:List V) (k':Int) {β:Type} (kn:Int→Option β) (kr:((List V) ⊕ (Int × Bool))→Option β):Option β:=
 bif decide ((k':Int)<(ss.length:Int)) then
  bif (decide (0≤k'))&&(decide (k'<(ss.length:Int))) then
  (ss[(k':Int).toNat]?).bind fun x1=>
  bif (decide (0≤(IntKind.wrap .i64 (k'-1))))&&(decide ((IntKind.wrap .i64 (k'-1))<(ss.length:Int))) then
   (ss[(IntKind.wrap .i64 (k'-1):Int).toNat]?).bind fun x2=>
   (C pd [.int .i64 ((x1.cell 0).toInt),.int .i64 ((x1.cell 1).toInt),.list aa ((x1.cell 2).toList),.int .i64 ((x2.cell 0).toInt),.int .i64 ((x2.cell 1).toInt),.list aa ((x2.cell 2).toList)]).bind fun r3=>
   bif (V.nth r3 0).toBool then
   bif (decide (0≤k'))&&(decide (k'≤(ss.length:Int))) then
    (Loop (uO C ((k':Int).toNat) (ss.length-((k':Int).toNat))) (k',1,ss)).bind (un fun (mo:Int)=>un fun (aiT:Int)=>un fun (EN:Bool) (qO:List V)=>
     bif (decide (0≤mo))&&(decide (mo≤(qO.length:Int))) then
     bif (decide (0≤mo))&&(decide (mo≤((qO.take ((mo:Int).toNat)++(List.replicate (qO.length-((mo:Int).toNat)) (V.agg [.int .i64 0,.int .i64 0,.list aa ([]:List V)])++qO.drop (((mo:Int).toNat)+(qO.length-((mo:Int).toNat))))).length:Int))) then
      kr (.inl ((qO.take ((mo:Int).toNat)++(List.replicate (qO.length-((mo:Int).toNat)) (V.agg [.int .i64 0,.int .i64 0,.list aa ([]:List V)])++qO.drop (((mo:Int).toNat)+(qO.length-((mo:Int).toNat))))).take ((mo:Int).toNat)))
     else none
     else none)
   else none
   else
   kn (IntKind.wrap .i64 (k'+1))
  else none
  else none
 else
  kr (.inr (k',decide ((k':Int)<(ss.length:Int))))
noncomputable def uP (C:ag) (ss:List V):(Int)→Option ((Int) ⊕ ((List V) ⊕ (Int × Bool))):=fun k'=>xI C ss k' (fun y=>some (.inl y)) (fun r=>some (.inr r))
noncomputable def SE (C:ag):cB:=fun β n ds k=>
 bif Nat.beq n 145 then cj Jv [true,false,false,true,true] [[0,2,3,0,0,0]] (@xH C) ds k else
 bif Nat.beq n 65 then cj Jw [true,false] [[0],[0,0,2]] (@xI C) ds k else
 none
abbrev SF (C:ag) (b:cx):Prop:=cy Try.prog ax C (SE C) 106 (cP Try.prog (ax.aX 106)) (ax.sin 106).a8.length b
theorem aeE (C:ag):SF C (.loop (aw [1,1,0,1,0,0,1,0,0,1,0,1,0,1,0,0] Fv)):=
 cr Jv [true,false,false,true,true] [[0,2,3,0,0,0]] (@xH C) (by kernel_rfl) (bh (bs:=[]) (by kernel_rfl) av) (fun ds=>by kernel_rfl) (fun i x=>by kernel_rfl) (fun i x β k=>by kernel_rfl) (fun β ds k=>by kernel_rfl)
theorem aeF (C:ag):SF C (.loop (aw [1,1,0,1,0,0] Fv)):=
 cr Jw [true,false] [[0],[0,0,2]] (@xI C) (by kernel_rfl) (bh (bs:=[.loop (aw [1,1,0,1,0,0,1,0,0,1,0,1,0,1,0,0] Fv)]) (by kernel_rfl) (bG (aeE C) av)) (fun ds=>by kernel_rfl) (fun i x=>by kernel_rfl) (fun i x β k=>by kernel_rfl) (fun β ds k=>by kernel_rfl)
noncomputable def Fw (C:ag) (ss:List V):Option (List V):=
 bif decide (((ss.length:Int):Int)<2) then
  some [V.bool true,.list aa ss]
 else
  (Loop (uP C ss) 1).bind (bX (fun (aeG:List V)=>
   some [V.bool false,.list aa aeG]) (un fun (aiU:Int) (wU:Bool)=>
   some [V.bool true,.list aa ss]))
theorem K2 {ss:List V} {r:Option (List V)} (h:Fw CC ss=r):CC Em [.list aa ss]=r:=
 aY (key:=106) (L:=SE CC) (bs:=[.loop (aw [1,1,0,1,0,0] Fv)]) (by kernel_rfl) (bG (aeF CC) av) (aW (by kernel_rfl) h)
noncomputable def SG (C:ag) (gp:List V):Option (List V):=
 (C zU [.list aa gp]).bind fun r1=>
 (C Em [.list aa ((V.nth r1 0).toList)]).bind fun r2=>
 bif (V.nth r2 0).toBool then
  some [V.bool true,.list aa ((V.nth (r2.drop 1) 0).toList)]
 else
  some [V.bool false,.list aa ((V.nth (r2.drop 1) 0).toList)]
theorem aeH {gp:List V} {r:Option (List V)} (h:SG CC gp=r):CC tZ [.list aa gp]=r:=
 aY (key:=98) (L:=cb) (bs:=[]) (by kernel_rfl) av (aW (by kernel_rfl) h)
noncomputable def SH (C:ag) (gj gk:Int) (gl:List V) (gm gn:Int) (gM:List V):Option (List V):=
 (C a9 [.int .i64 gj,.int .i64 gk,.list aa gl,.int .i64 gm,.int .i64 gn,.list aa gM]).bind fun r1=>
 some [.bool ((((V.nth r1 0).toInt):Int)==0)]
theorem aeI {gj gk:Int} {gl:List V} {gm gn:Int} {gM:List V} {r:Option (List V)} (h:SH CC gj gk gl gm gn gM=r):CC pd [.int .i64 gj,.int .i64 gk,.list aa gl,.int .i64 gm,.int .i64 gn,.list aa gM]=r:=
 aY (key:=107) (L:=cb) (bs:=[]) (by kernel_rfl) av (aW (by kernel_rfl) h)
end Go.AM
set_option maxRecDepth 100000
namespace Go.AM
open Go.Proofs Ex
def np (prev:Ex):List Ex→List Ex
 | []=>[]
 | x::l=>if cmp x prev=0 then np x l else x::np x l
def iN:List Ex→List Ex
 | []=>[]
 | x::l=>x::np x l
theorem SI: ∀(m:List Ex) (prev x:Ex),np prev (m++[x])=np prev m++(if cmp x ((prev::m).getD m.length aP)=0 then [] else [x])
 | [],prev,x=>by simp only[List.nil_append,np,List.length_nil,yj]
 | y::m,prev,x=>by
  have ih:=SI m y x
  simp only[List.cons_append,np,List.length_cons,List.getD_cons_succ]
  split
  ·exact ih
  ·rw[ih];rfl
theorem SJ {l:List Ex} {p:Nat} (h1:1≤p) (U:p<l.length):iN (l.take (p+1))=iN (l.take p)++(if cmp (l.getD p aP) (l.getD (p-1) aP)=0 then [] else [l.getD p aP]):=by
 match l,p,h1,U with
 | y::l,p+1,_,U=>
  simp only[List.length_cons] at U
  rw[List.take_succ_cons,List.take_succ_cons,iN,iN,kK (by omega),SI]
  simp only[List.getD_cons_succ,fj,u4]
  rw[show min p l.length=p by omega]
  have:(y::l.take p).getD p aP=(y::l).getD p aP:=by
   match p with
   | 0=>rfl
   | q+1=>simp only[List.getD_cons_succ];rw[fV,fV,eJ (by omega)]
  rw[this];rfl
theorem SK: ∀(m:List Ex) (prev:Ex),(prev::m).Pairwise (fun x y=> ¬y.lx x)→jB (prev::np prev m)∧∀x,x∈prev::np prev m↔x∈prev::m
 | [],prev,_=>⟨by simp[np],by simp[np]⟩
 | y::m,prev,h=>by
  have h1:=sN.1 h
  obtain ⟨i1,i2⟩:=SK m y h1.2
  rw[np]
  by_cases hc:cmp y prev=0
  ·rw[aj hc]
   have:=um _ _ hc
   subst this
   refine ⟨i1,fun x=> ?_⟩
   rw[i2 x];simp
  ·rw[ai hc]
   have aO:prev.lx y:=by
    by_cases U:prev.lx y
    ·exact U
    ·exact absurd (Ex.Q2 U (h1.1 y (by simp))) fun e=>hc (by rw[e];exact Ao _)
   refine ⟨sN.2 ⟨fun x hx=> ?_,i1⟩,fun x=> ?_⟩
   ·rcases df.1 hx with rfl|hx
    ·exact aO
    ·exact Ex.Kk aO ((sN.1 i1).1 x hx)
   ·rw[df,i2 x,←df]
theorem aeJ {l:List Ex} (h:l.Pairwise (fun x y=> ¬y.lx x)):jB (iN l)∧∀x,x∈iN l↔x∈l:=by
 match l,h with
 | [],_=>exact ⟨List.Pairwise.nil,fun _=>Iff.rfl⟩
 | y::l,h=>exact SK l y h
theorem SL (a:Ex) (ha:a.Ok) (b:Ex) (hb:b.Ok):CC pd (bW a (bW b []))=some [.bool (decide (cmp a b=0))]:=by
 refine aeI ?_
 unfold SH
 refine (congrArg (fun o=>Option.bind o _) (ES a ha b hb)).trans ?_
 simp only[Option.bind_some,V.aR,V.toInt_int]
 rw[Ak]
section
variable {l:List Ex} (hn:l.length≤1000000) (au: ∀k∈l,k.Ok)
include hn au
theorem aeK {k:Nat}: ∀(d k2 i:Nat) (ss:List Ex),k+k2+d=l.length→1≤k2→i+1≤k+k2→ss.length=l.length→ss.take i=iN (l.take (k+k2))→ss.drop (k+k2-1)=l.drop (k+k2-1)→
  ∃t u eO,Loop (uO CC k (l.length-k)) ((i:Int),(k2:Int),ss.map enc)=some (((iN l).length:Int),u,t,List.map enc eO)∧eO.take (iN l).length=iN l∧eO.length=l.length:=by
 intro d
 induction d with
 | zero=>
  intro k2 i ss hj lY hi hl ht hd
  have e0:l.take (k+k2)=l:=List.take_of_length_le (by omega)
  rw[e0] at ht
  have gG:i=(iN l).length:=by rw[←ht,fj];omega
  refine ⟨false,(k2:Int),ss,bd ?_,by rw[←gG];exact ht,hl⟩
  simp only[uO,xH,un,ba,aB]
  rw[ai (by omega),bZ (by omega),gG]
 | succ d ih=>
  intro k2 i ss hj lY hi hl ht hd
  have hp:k+k2<l.length:=by omega
  have iA:ss.drop (k+k2)=l.drop (k+k2):=by
   have h:=congrArg (List.drop 1) hd
   rw[pJ,pJ] at h
   rwa [show k+k2-1+1=k+k2 by omega] at h
  have g1:=AB hl iA hp
  have g0:=AB hl hd (show k+k2-1<l.length by omega)
  have x1:(ss.map enc)[k+k2]? =some (l.getD (k+k2) aP).enc:=by rw[ot (by omega),g1]
  have x0:(ss.map enc)[k+(k2-1)]? =some (l.getD (k+k2-1) aP).enc:=by rw[show k+(k2-1)=k+k2-1 by omega,ot (by omega),g0]
  have w1:IntKind.wrap .i64 ((k2:Int)-1)=((k2-1:Nat):Int):=by rw[wrap64 (by omega) (by omega)];omega
  have t1:((k2:Nat):Int)<((l.length-k:Nat):Int):=by omega
  have t2:(0:Int)≤((k2:Nat):Int):=by omega
  have t3:(0:Int)≤((k2-1:Nat):Int):=by omega
  have t4:((k2-1:Nat):Int)<((l.length-k:Nat):Int):=by omega
  have t5:((i:Nat):Int)<(ss.length:Int):=by omega
  have t6:(0:Int)≤((i:Nat):Int):=by omega
  have cq: ∃y,(ss.map enc)[i]? =some y:=⟨_,ot (by omega)⟩
  obtain ⟨y,hy⟩:=cq
  have co:=SL (l.getD (k+k2) aP) (ET au hp) (l.getD (k+k2-1) aP) (ET au (by omega))
  have cs:=SJ (l:=l) (p:=k+k2) (by omega) hp
  by_cases he:cmp (l.getD (k+k2) aP) (l.getD (k+k2-1) aP)=0
  ·have b9:uO CC k (l.length-k) ((i:Int),(k2:Int),ss.map enc)=some (.inl ((i:Int),((k2+1:Nat):Int),ss.map enc)):=by
    simp only[uO,xH,un,ba,aB,dj,w1,t1,t2,t3,t4,dm,Int.toNat_natCast,x1,x0,Option.bind_some,bn,bp,bq]
    refine (congrArg (fun o=>Option.bind o _) co).trans ?_
    simp only[Option.bind_some,V.aR,V.dy]
    rw[c7 he,pI,cond_false,wrap64 (by omega) (by omega)]
    rfl
   rw[bR b9]
   refine ih (k2+1) i ss (by omega) (by omega) (by omega) hl ?_ (by rw[show k+(k2+1)-1=k+k2 by omega];exact iA)
   rw[show k+(k2+1)=k+k2+1 by omega,cs,aj he,dH,ht]
  ·have b9:uO CC k (l.length-k) ((i:Int),(k2:Int),ss.map enc)=some (.inl (((i+1:Nat):Int),((k2+1:Nat):Int),(ss.set i (l.getD (k+k2) aP)).map enc)):=by
    simp only[uO,xH,un,ba,aB,dj,w1,t1,t2,t3,t4,t5,t6,dm,Int.toNat_natCast,x1,x0,hy,Option.bind_some,bn,bp,bq]
    refine (congrArg (fun o=>Option.bind o _) co).trans ?_
    simp only[Option.bind_some,V.aR,V.dy]
    rw[bZ he,sO,cond_true,wrap64 (by omega) (by omega),wrap64 (by omega) (by omega),←eC,yk]
    rfl
   rw[bR b9]
   refine ih (k2+1) (i+1) (ss.set i (l.getD (k+k2) aP)) (by omega) (by omega) (by omega) (by simpa using hl) ?_ ?_
   ·rw[kK (by rw[nz];omega),BZ (cf i),ht,show k+(k2+1)=k+k2+1 by omega,cs,ai he]
    simp[show i<ss.length by omega]
   ·rw[show k+(k2+1)-1=k+k2 by omega,B0 (by omega),iA]
theorem aeL: ∀(d p:Nat),p+d=l.length→1≤p→iN (l.take p)=l.take p→
  (iN l=l∧∃t,Loop (uP CC (l.map enc)) (p:Int)=some (.inr t))∨Loop (uP CC (l.map enc)) (p:Int)=some (.inl ((iN l).map enc)):=by
 intro d
 induction d with
 | zero=>
  intro p hp h1 hc
  obtain rfl:p=l.length:=by omega
  rw[pG] at hc
  refine .inl ⟨hc,((l.length:Int),false),bd ?_⟩
  simp only[uP,xI,ba,aB]
  rw[ai (by omega),bZ (by omega)]
 | succ d ih=>
  intro p hp h1 hc
  have b7:p<l.length:=by omega
  have cs:=SJ (l:=l) h1 b7
  have co:=SL (l.getD p aP) (ET au b7) (l.getD (p-1) aP) (ET au (by omega))
  have x1:(l.map enc)[p]? =some (l.getD p aP).enc:=ot b7
  have x0:(l.map enc)[p-1]? =some (l.getD (p-1) aP).enc:=ot (by omega)
  have w1:IntKind.wrap .i64 ((p:Int)-1)=((p-1:Nat):Int):=by rw[wrap64 (by omega) (by omega)];omega
  have t1:((p:Nat):Int)<(l.length:Int):=by omega
  have t2:(0:Int)≤((p:Nat):Int):=by omega
  have t3:(0:Int)≤((p-1:Nat):Int):=by omega
  have t4:((p-1:Nat):Int)<(l.length:Int):=by omega
  have t5:((p:Nat):Int)≤(l.length:Int):=by omega
  by_cases he:cmp (l.getD p aP) (l.getD (p-1) aP)=0
  ·refine .inr (bd ?_)
   obtain ⟨t,u,eO,e1,e2,e3⟩:=aeK hn au (k:=p) (l.length-(p+1)) 1 p l (by omega) (by omega) (by omega) rfl (by rw[cs,aj he,dH,hc]) rfl
   have hm:(iN l).length≤eO.length:=by
    have:=congrArg List.length e2
    rw[fj] at this
    omega
   have m1:(0:Int)≤(((iN l).length:Nat):Int):=by omega
   have m2:(((iN l).length:Nat):Int)≤((eO.map enc).length:Int):=by rw[ba];omega
   simp only[uP,xI,ba,aB,dj,w1,t1,t2,t3,t4,t5,dm,Int.toNat_natCast,x1,x0,Option.bind_some,bn,bp,bq]
   refine (congrArg (fun o=>Option.bind o _) co).trans ?_
   simp only[Option.bind_some,V.aR,V.dy]
   rw[c7 he,cond_true]
   refine (congrArg (fun o=>Option.bind o _) e1).trans ?_
   simp only[Option.bind_some,un,dj,aB,Int.toNat_natCast]
   rw[aj m1,aj m2,aj m1,aj (by simp only[cv,fj,sM,sL,ba];omega),E6 _ _ _ hm,e2]
  ·have b9:uP CC (l.map enc) (p:Int)=some (.inl ((p+1:Nat):Int)):=by
    simp only[uP,xI,ba,aB,dj,w1,t1,t2,t3,t4,dm,Int.toNat_natCast,x1,x0,Option.bind_some,bn,bp,bq]
    refine (congrArg (fun o=>Option.bind o _) co).trans ?_
    simp only[Option.bind_some,V.aR,V.dy]
    rw[bZ he,cond_false,wrap64 (by omega) (by omega)]
    rfl
   rw[bR b9]
   exact ih (p+1) (by omega) (by omega) (by rw[cs,ai he,hc,←kK b7])
theorem aeM: ∃b,CC Em [.list aa (l.map enc)]=some [.bool b,.list aa ((iN l).map enc)]:=by
 by_cases U:l.length<2
 ·refine ⟨true,K2 ?_⟩
  unfold Fw
  rw[ba,aB,aj (by omega)]
  match l,U with
  | [],_=>rfl
  | [k],_=>rfl
 ·rcases aeL hn au (l.length-1) 1 (by omega) (by omega) (by
   match l,U with
   | k::l,_=>rfl) with ⟨h3,t,h4⟩|h4
  ·refine ⟨true,K2 ?_⟩
   unfold Fw
   rw[ba,aB,ai (by omega)]
   refine (congrArg (fun o=>Option.bind o _) h4).trans ?_
   rw[h3];rfl
  ·refine ⟨false,K2 ?_⟩
   unfold Fw
   rw[ba,aB,ai (by omega)]
   refine (congrArg (fun o=>Option.bind o _) h4).trans ?_
   rfl
theorem aeN: ∃R:List Ex,CC zU [.list aa (l.map enc)]=some [.list aa (R.map enc)]∧R.Perm l∧R.Pairwise (fun x y=> ¬y.lx x):=by
 have hx: ∃L:List SX.XE,L.map SX.XE.e=l:=by
  clear hn
  induction l with
  | nil=>exact ⟨[],rfl⟩
  | cons k l ih=>
   obtain ⟨L,hL⟩:=ih fun k hk=>au k (by simp[hk])
   exact ⟨⟨k,au k (by simp)⟩::L,by rw[cO,hL]⟩
 obtain ⟨L,rfl⟩:=hx
 have he: ∀L:List SX.XE,L.map SX.XE.enc=(L.map SX.XE.e).map enc:=fun L=>by rw[List.map_map];rfl
 obtain ⟨R,e1,h1,U⟩:=SX.aeD L (by rw[ba] at hn;omega)
 refine ⟨R.map SX.XE.e,?_,h1.map _,List.pairwise_map.2 U⟩
 rw[←he,←he];exact e1
theorem SM: ∃b,CC tZ [.list aa (l.map enc)]=some [.bool b,.list aa ((l.foldl fx []).map enc)]:=by
 obtain ⟨R,e1,h1,U⟩:=aeN hn au
 obtain ⟨b,e2⟩:=aeM (l:=R) (by rw[h1.length_eq];exact hn) fun k hk=>au k (h1.mem_iff.1 hk)
 obtain ⟨c1,c2⟩:=aeJ U
 have hc:iN R=l.foldl fx []:=Kl c1 E1 fun x=>by rw[c2,xc,h1.mem_iff]
 rw[hc] at e2
 refine ⟨b,aeH ?_⟩
 unfold SG
 refine (congrArg (fun o=>Option.bind o _) e1).trans ?_
 simp only[Option.bind_some,V.aR,V.ln]
 refine (congrArg (fun o=>Option.bind o _) e2).trans ?_
 cases b<;>rfl
end
end Go.AM
set_option maxRecDepth 100000
namespace Go.AM
open Go.Proofs
noncomputable def SN (C:ag) (kids:List V):Option (List V):=
 (C IM [.list aa kids]).bind fun r1=>
 bif (V.nth r1 0).toBool then
  (C sc []).bind fun r2=>
  some [.int .i64 ((V.nth r2 0).toInt),.int .i64 ((V.nth (r2.drop 1) 0).toInt),.list aa ((V.nth (r2.drop 2) 0).toList)]
 else
  (C wH [.int .i64 4,.list aa kids]).bind fun r3=>
  (C Ey [.list aa ((V.nth r3 0).toList)]).bind fun r4=>
  bif (V.nth r4 0).toBool then
  (C tZ [.list aa ((V.nth (r4.drop 1) 0).toList)]).bind fun r5=>
  bif (V.nth r5 0).toBool then
   (C pc []).bind fun r6=>
   (C ma [.int .i64 4,.list aa ((V.nth (r5.drop 1) 0).toList),.int .i64 ((V.nth r6 0).toInt),.int .i64 ((V.nth (r6.drop 1) 0).toInt),.list aa ((V.nth (r6.drop 2) 0).toList)]).bind fun r7=>
   some [.int .i64 ((V.nth r7 0).toInt),.int .i64 ((V.nth (r7.drop 1) 0).toInt),.list aa ((V.nth ((r7.drop 1).drop 1) 0).toList)]
  else
   (C pc []).bind fun r8=>
   (C ma [.int .i64 4,.list aa ((V.nth (r5.drop 1) 0).toList),.int .i64 ((V.nth r8 0).toInt),.int .i64 ((V.nth (r8.drop 1) 0).toInt),.list aa ((V.nth (r8.drop 2) 0).toList)]).bind fun r9=>
   some [.int .i64 ((V.nth r9 0).toInt),.int .i64 ((V.nth (r9.drop 1) 0).toInt),.list aa ((V.nth ((r9.drop 1).drop 1) 0).toList)]
  else
  (C tZ [.list aa ((V.nth (r4.drop 1) 0).toList)]).bind fun dV=>
  bif (V.nth dV 0).toBool then
   (C pc []).bind fun eR=>
   (C ma [.int .i64 4,.list aa ((V.nth (dV.drop 1) 0).toList),.int .i64 ((V.nth eR 0).toInt),.int .i64 ((V.nth (eR.drop 1) 0).toInt),.list aa ((V.nth (eR.drop 2) 0).toList)]).bind fun fD=>
   some [.int .i64 ((V.nth fD 0).toInt),.int .i64 ((V.nth (fD.drop 1) 0).toInt),.list aa ((V.nth ((fD.drop 1).drop 1) 0).toList)]
  else
   (C pc []).bind fun gi=>
   (C ma [.int .i64 4,.list aa ((V.nth (dV.drop 1) 0).toList),.int .i64 ((V.nth gi 0).toInt),.int .i64 ((V.nth (gi.drop 1) 0).toInt),.list aa ((V.nth (gi.drop 2) 0).toList)]).bind fun mg=>
   some [.int .i64 ((V.nth mg 0).toInt),.int .i64 ((V.nth (mg.drop 1) 0).toInt),.list aa ((V.nth ((mg.drop 1).drop 1) 0).toList)]
theorem aeO {kids:List V} {r:Option (List V)} (h:SN CC kids=r):CC Ee [.list aa kids]=r:=
 aY (key:=78) (L:=cb) (bs:=[]) (by kernel_rfl) av (aW (by kernel_rfl) h)
noncomputable def SO (C:ag) (kids:List V):Option (List V):=
 (C sa [.list aa kids]).bind fun r1=>
 bif (V.nth r1 0).toBool then
  (C pc []).bind fun r2=>
  some [.int .i64 ((V.nth r2 0).toInt),.int .i64 ((V.nth (r2.drop 1) 0).toInt),.list aa ((V.nth (r2.drop 2) 0).toList)]
 else
  (C wH [.int .i64 5,.list aa kids]).bind fun r3=>
  (C Ev [.list aa ((V.nth r3 0).toList)]).bind fun r4=>
  bif (V.nth r4 0).toBool then
  (C tW []).bind fun r5=>
  (C ma [.int .i64 5,.list aa ((V.nth (r4.drop 1) 0).toList),.int .i64 ((V.nth r5 0).toInt),.int .i64 ((V.nth (r5.drop 1) 0).toInt),.list aa ((V.nth (r5.drop 2) 0).toList)]).bind fun r6=>
  some [.int .i64 ((V.nth r6 0).toInt),.int .i64 ((V.nth (r6.drop 1) 0).toInt),.list aa ((V.nth ((r6.drop 1).drop 1) 0).toList)]
  else
  (C tW []).bind fun r7=>
  (C ma [.int .i64 5,.list aa ((V.nth (r4.drop 1) 0).toList),.int .i64 ((V.nth r7 0).toInt),.int .i64 ((V.nth (r7.drop 1) 0).toInt),.list aa ((V.nth (r7.drop 2) 0).toList)]).bind fun r8=>
  some [.int .i64 ((V.nth r8 0).toInt),.int .i64 ((V.nth (r8.drop 1) 0).toInt),.list aa ((V.nth ((r8.drop 1).drop 1) 0).toList)]
theorem aeP {kids:List V} {r:Option (List V)} (h:SO CC kids=r):CC Ef [.list aa kids]=r:=
 aY (key:=79) (L:=cb) (bs:=[]) (by kernel_rfl) av (aW (by kernel_rfl) h)
noncomputable def SP (C:ag) (kids:List V):Option (List V):=
 (C sa [.list aa kids]).bind fun r1=>
 bif (V.nth r1 0).toBool then
  (C pc []).bind fun r2=>
  some [.int .i64 ((V.nth r2 0).toInt),.int .i64 ((V.nth (r2.drop 1) 0).toInt),.list aa ((V.nth (r2.drop 2) 0).toList)]
 else
  (C wH [.int .i64 6,.list aa kids]).bind fun r3=>
  (C wG [.list aa ((V.nth r3 0).toList)]).bind fun r4=>
  bif (V.nth r4 0).toBool then
  (C tZ [.list aa ((V.nth (r4.drop 1) 0).toList)]).bind fun r5=>
  bif (V.nth r5 0).toBool then
   (C sc []).bind fun r6=>
   (C ma [.int .i64 6,.list aa ((V.nth (r5.drop 1) 0).toList),.int .i64 ((V.nth r6 0).toInt),.int .i64 ((V.nth (r6.drop 1) 0).toInt),.list aa ((V.nth (r6.drop 2) 0).toList)]).bind fun r7=>
   some [.int .i64 ((V.nth r7 0).toInt),.int .i64 ((V.nth (r7.drop 1) 0).toInt),.list aa ((V.nth ((r7.drop 1).drop 1) 0).toList)]
  else
   (C sc []).bind fun r8=>
   (C ma [.int .i64 6,.list aa ((V.nth (r5.drop 1) 0).toList),.int .i64 ((V.nth r8 0).toInt),.int .i64 ((V.nth (r8.drop 1) 0).toInt),.list aa ((V.nth (r8.drop 2) 0).toList)]).bind fun r9=>
   some [.int .i64 ((V.nth r9 0).toInt),.int .i64 ((V.nth (r9.drop 1) 0).toInt),.list aa ((V.nth ((r9.drop 1).drop 1) 0).toList)]
  else
  (C tZ [.list aa ((V.nth (r4.drop 1) 0).toList)]).bind fun dV=>
  bif (V.nth dV 0).toBool then
   (C sc []).bind fun eR=>
   (C ma [.int .i64 6,.list aa ((V.nth (dV.drop 1) 0).toList),.int .i64 ((V.nth eR 0).toInt),.int .i64 ((V.nth (eR.drop 1) 0).toInt),.list aa ((V.nth (eR.drop 2) 0).toList)]).bind fun fD=>
   some [.int .i64 ((V.nth fD 0).toInt),.int .i64 ((V.nth (fD.drop 1) 0).toInt),.list aa ((V.nth ((fD.drop 1).drop 1) 0).toList)]
  else
   (C sc []).bind fun gi=>
   (C ma [.int .i64 6,.list aa ((V.nth (dV.drop 1) 0).toList),.int .i64 ((V.nth gi 0).toInt),.int .i64 ((V.nth (gi.drop 1) 0).toInt),.list aa ((V.nth (gi.drop 2) 0).toList)]).bind fun mg=>
   some [.int .i64 ((V.nth mg 0).toInt),.int .i64 ((V.nth (mg.drop 1) 0).toInt),.list aa ((V.nth ((mg.drop 1).drop 1) 0).toList)]
theorem aeQ {kids:List V} {r:Option (List V)} (h:SP CC kids=r):CC Eg [.list aa kids]=r:=
 aY (key:=80) (L:=cb) (bs:=[]) (by kernel_rfl) av (aW (by kernel_rfl) h)
noncomputable def K3 (C:ag) (op:Int) (kids:List V):Option (List V):=
 bif (op:Int)==4 then
  (C Ee [.list aa kids]).bind fun r1=>
  some [.int .i64 ((V.nth r1 0).toInt),.int .i64 ((V.nth (r1.drop 1) 0).toInt),.list aa ((V.nth ((r1.drop 1).drop 1) 0).toList)]
 else
  bif (op:Int)==5 then
  (C Ef [.list aa kids]).bind fun r2=>
  some [.int .i64 ((V.nth r2 0).toInt),.int .i64 ((V.nth (r2.drop 1) 0).toInt),.list aa ((V.nth ((r2.drop 1).drop 1) 0).toList)]
  else
  bif (op:Int)==6 then
   (C Eg [.list aa kids]).bind fun r3=>
   some [.int .i64 ((V.nth r3 0).toInt),.int .i64 ((V.nth (r3.drop 1) 0).toInt),.list aa ((V.nth ((r3.drop 1).drop 1) 0).toList)]
  else
   bif ((kids.length:Int):Int) != 1 then
   some [.int .i64 0,.int .i64 0,.list aa ([]:List V)]
   else
   (kids[0]?).bind fun x4=>
   bif (op:Int)==8 then
    bif (((x4.cell 0).toInt):Int)==8 then
    bif ((((x4.cell 2).toList).length:Int):Int)==1 then
     (((x4.cell 2).toList)[0]?).bind fun x5=>
     some [.int .i64 ((x5.cell 0).toInt),.int .i64 ((x5.cell 1).toInt),.list aa ((x5.cell 2).toList)]
    else
     some [.int .i64 8,.int .i64 0,.list aa ([.agg [.int .i64 ((x4.cell 0).toInt),.int .i64 ((x4.cell 1).toInt),.list aa ((x4.cell 2).toList)]]:List V)]
    else
    some [.int .i64 8,.int .i64 0,.list aa ([.agg [.int .i64 ((x4.cell 0).toInt),.int .i64 ((x4.cell 1).toInt),.list aa ((x4.cell 2).toList)]]:List V)]
   else
    bif (op:Int)==7 then
    bif (((x4.cell 0).toInt):Int)==1 then
     (C tW []).bind fun r6=>
     some [.int .i64 ((V.nth r6 0).toInt),.int .i64 ((V.nth (r6.drop 1) 0).toInt),.list aa ((V.nth (r6.drop 2) 0).toList)]
    else
     bif (((x4.cell 0).toInt):Int)==2 then
     (C tW []).bind fun r7=>
     some [.int .i64 ((V.nth r7 0).toInt),.int .i64 ((V.nth (r7.drop 1) 0).toInt),.list aa ((V.nth (r7.drop 2) 0).toList)]
     else
     bif (((x4.cell 0).toInt):Int)==7 then
      some [.int .i64 ((x4.cell 0).toInt),.int .i64 ((x4.cell 1).toInt),.list aa ((x4.cell 2).toList)]
     else
      (C l8 [.int .i64 ((x4.cell 0).toInt),.int .i64 ((x4.cell 1).toInt),.list aa ((x4.cell 2).toList)]).bind fun r8=>
      bif (V.nth r8 0).toBool then
      some [.int .i64 ((x4.cell 0).toInt),.int .i64 ((x4.cell 1).toInt),.list aa ((x4.cell 2).toList)]
      else
      some [.int .i64 7,.int .i64 0,.list aa ([.agg [.int .i64 ((x4.cell 0).toInt),.int .i64 ((x4.cell 1).toInt),.list aa ((x4.cell 2).toList)]]:List V)]
    else
    some [.int .i64 0,.int .i64 0,.list aa ([]:List V)]
theorem SQ {op:Int} {kids:List V} {r:Option (List V)} (h:K3 CC op kids=r):CC j7 [.int .i64 op,.list aa kids]=r:=
 aY (key:=69) (L:=cb) (bs:=[]) (by kernel_rfl) av (aW (by kernel_rfl) h)
noncomputable abbrev SR:Code:=cL Try.prog (ax.aX 59)
noncomputable def Bb (C:ag) (t20:List V) (t21 gg eY:Int) (ee:List V) (Bc Bd:Int) (bz:List V) (t22:Int) (xJ:List V) {β:Type} (kn:(Int × (List V))→Option β) (kr:(Int × Bool × (List V))→Option β):Option β:=
 bif decide ((t22:Int)<t21) then
  (idx t20 t22).bind fun x1=>
  (C tV [.int .i64 ((x1.cell 0).toInt),.int .i64 ((x1.cell 1).toInt),.list aa ((x1.cell 2).toList)]).bind fun r2=>
  bif (decide (0≤t22))&&(decide (t22<(xJ.length:Int))) then
  (xJ[(t22:Int).toNat]?).bind fun x3=>
  kn (IntKind.wrap .i64 (t22+1),xJ.set ((t22:Int).toNat) (.agg [.int .i64 ((V.nth r2 0).toInt),.int .i64 ((V.nth (r2.drop 1) 0).toInt),.list aa ((V.nth ((r2.drop 1).drop 1) 0).toList)]))
  else none
 else
  kr (t22,decide ((t22:Int)<t21),xJ)
noncomputable def Fx (C:ag) (t20:List V) (t21 gg eY:Int) (ee:List V) (Bc Bd:Int) (bz:List V):(Int × (List V))→Option ((Int × (List V)) ⊕ (Int × Bool × (List V))):=un fun t22 xJ=>Bb C t20 t21 gg eY ee Bc Bd bz t22 xJ (fun y=>some (.inl y)) (fun r=>some (.inr r))
noncomputable def SS (C:ag):cB:=fun β n ds k=>
 bif Nat.beq n 81 then cj Jb [false,false,true,false,false,false,false,false,true,false] [[1,2,0,0,4,5,6,7,8,0,10]] (@Bb C) ds k else
 none
abbrev aeR (C:ag) (b:cx):Prop:=cy Try.prog ax C (SS C) 59 (cP Try.prog (ax.aX 59)) (ax.sin 59).a8.length b
theorem aeS (C:ag):aeR C (.loop (aw [1,1,1,0,1,0,0] SR)):=
 cr Jb [false,false,true,false,false,false,false,false,true,false] [[1,2,0,0,4,5,6,7,8,0,10]] (@Bb C) (by kernel_rfl) (bh (bs:=[]) (by kernel_rfl) av) (fun ds=>by kernel_rfl) (fun i x=>by kernel_rfl) (fun i x β k=>by kernel_rfl) (fun β ds k=>by kernel_rfl)
noncomputable def SU (C:ag) (ah ar:Int) (af:List V):Option (List V):=
 bif ((af.length:Int):Int)==0 then
  some [.int .i64 ah,.int .i64 ar,.list aa ([]:List V)]
 else
  bif (decide (0≤(af.length:Int)))&&((decide ((af.length:Int)≤(af.length:Int)))&&(Nat.ble ((((af.length:Int):Int).toNat)*40) cI)) then
  (Loop (Fx C af (af.length:Int) ah ar af 0 0 ([]:List V)) (0,List.replicate (((af.length:Int):Int).toNat) (V.agg [.int .i64 0,.int .i64 0,.list aa ([]:List V)]))).bind (un fun (jf:Int)=>un fun (me:Bool) (aeT:List V)=>
   (C j7 [.int .i64 ah,.list aa aeT]).bind fun r7=>
   some [.int .i64 ((V.nth r7 0).toInt),.int .i64 ((V.nth (r7.drop 1) 0).toInt),.list aa ((V.nth ((r7.drop 1).drop 1) 0).toList)])
  else none
theorem aeU {ah ar:Int} {af:List V} {r:Option (List V)} (h:SU CC ah ar af=r):CC tV [.int .i64 ah,.int .i64 ar,.list aa af]=r:=
 aY (key:=59) (L:=SS CC) (bs:=[.loop (aw [1,1,1,0,1,0,0] SR)]) (by kernel_rfl) (bG (aeS CC) av) (aW (by kernel_rfl) h)
noncomputable def SV (C:ag) (ah ar:Int) (af:List V):Option (List V):=
 (C zQ [.int .i64 ah,.int .i64 ar,.list aa af]).bind fun r1=>
 bif !((V.nth r1 0).toBool) then
  some [.int .i64 0,.int .i64 0,.list aa ([]:List V)]
 else
  (C tV [.int .i64 ah,.int .i64 ar,.list aa af]).bind fun r2=>
  some [.int .i64 ((V.nth r2 0).toInt),.int .i64 ((V.nth (r2.drop 1) 0).toInt),.list aa ((V.nth ((r2.drop 1).drop 1) 0).toList)]
theorem aeV {ah ar:Int} {af:List V} {r:Option (List V)} (h:SV CC ah ar af=r):CC wz [.int .i64 ah,.int .i64 ar,.list aa af]=r:=
 aY (key:=41) (L:=cb) (bs:=[]) (by kernel_rfl) av (aW (by kernel_rfl) h)
end Go.AM
set_option maxRecDepth 100000
namespace Go.AM
open Go.Proofs Ex
theorem uQ:CC pc []=some (ia eb):=ab2 rfl
theorem Fy:CC tW []=some (ia jg):=ab4 rfl
theorem Be:CC sc []=some (ia jh):=by
 refine ab5 ?_
 unfold Q0
 refine bs uQ ?_
 simp[ia,eb,jh,Ex.op,Ex.cS,Ex.kids,eC]
theorem SW (o:Int) (l:List Ex):(l.filter fun k=> !(decide (k.op=o)))=l.filter fun k=>decide (k.op≠o):=by
 congr 1;funext k;simp
theorem SY {ks:List Ex} (hlen:ks.length≤1000000):CC sa [.list aa (ks.map enc)]=some [.bool (ks.any fun k=>decide (k.op=1))]:=acP hlen
theorem aeW {ks:List Ex} (hn:ks.length≤1000000): ∃b,CC Ey [.list aa (ks.map enc)]=some [.bool b,.list aa ((ks.filter (fun k=>decide (k.op≠1))).map enc)]:=by
 rw[←SW];exact acR hn
theorem aeX {ks:List Ex} (hn:ks.length≤1000000): ∃b,CC Ev [.list aa (ks.map enc)]=some [.bool b,.list aa ((ks.filter (fun k=>decide (k.op≠2))).map enc)]:=by
 rw[←SW];exact acV hn
theorem SZ {o:Int} {ks:List Ex} (h: ∀k∈ks,k.Ok): ∀k∈bI o ks,k.Ok:=fun x hx=>by
 obtain ⟨k,h1,U|U⟩:=m8.1 hx
 ·have:=h k h1
  obtain ⟨o2,l2,lp⟩:=k
  exact this.om x U.2
 ·rw[U.2];exact h k h1
theorem aeY {n:Int} {ks:List Ex} (hk: ∀k∈ks,Gd n k) (hs:aJ ks≤1000000):CC Ef [.list aa (ks.map enc)]=some (ia (dA 5 0 ks)):=by
 have hl:=pk ks
 have a1:=w9 5 ks
 have a2:=pk (bI 5 ks)
 refine aeP ?_
 unfold SO
 rw[ur,Kt hk]
 refine bs (SY (by omega)) ?_
 cases hu:ks.any fun k=>decide (k.op=1) with
 | true=>
  refine bT rfl ?_
  refine bs uQ ?_
  rfl
 | false=>
  refine bF rfl ?_
  refine bs (Kj (by omega) (by omega)) ?_
  obtain ⟨b,e⟩:=aeX (ks:=bI 5 ks) (by omega)
  refine bs e ?_
  cases b
  ·exact bF rfl (bs Fy (bs (pj (z:=jg)) rfl))
  ·exact bT rfl (bs Fy (bs (pj (z:=jg)) rfl))
section
variable {n:Int} {ks:List Ex} (hk: ∀k∈ks,Gd n k) (au: ∀k∈ks,k.Ok) (hs:aJ ks≤1000000)
include hk au hs
theorem aeZ:CC Ee [.list aa (ks.map enc)]=some (ia (dA 4 0 ks)):=by
 have hl:=pk ks
 have a1:=w9 4 ks
 have a2:=pk (bI 4 ks)
 refine aeO ?_
 unfold SN
 rw[xb,Ra hk]
 refine bs (acX (by omega)) ?_
 cases hu:ks.any univ with
 | true=>
  refine bT rfl ?_
  refine bs Be ?_
  rfl
 | false=>
  refine bF rfl ?_
  refine bs (Kj (by omega) (by omega)) ?_
  obtain ⟨b,e⟩:=aeW (ks:=bI 4 ks) (by omega)
  refine bs e ?_
  obtain ⟨b2,e2⟩:=SM (l:=(bI 4 ks).filter fun k=>decide (k.op≠1)) (by have:=sP (fun k:Ex=>decide (k.op≠1)) (bI 4 ks);omega) fun k h=>SZ au k (nE.1 h).1
  cases b
  ·refine bF rfl ?_
   refine bs e2 ?_
   cases b2
   ·exact bF rfl (bs uQ (bs (pj (z:=eb)) rfl))
   ·exact bT rfl (bs uQ (bs (pj (z:=eb)) rfl))
  ·refine bT rfl ?_
   refine bs e2 ?_
   cases b2
   ·exact bF rfl (bs uQ (bs (pj (z:=eb)) rfl))
   ·exact bT rfl (bs uQ (bs (pj (z:=eb)) rfl))
theorem ae0:CC Eg [.list aa (ks.map enc)]=some (ia (dA 6 0 ks)):=by
 have hl:=pk ks
 have a1:=w9 6 ks
 have a2:=pk (bI 6 ks)
 refine aeQ ?_
 unfold SP
 rw[Au,aci hk]
 refine bs (SY (by omega)) ?_
 cases hu:ks.any fun k=>decide (k.op=1) with
 | true=>
  refine bT rfl ?_
  refine bs uQ ?_
  rfl
 | false=>
  refine bF rfl ?_
  refine bs (Kj (by omega) (by omega)) ?_
  obtain ⟨b,e⟩:=acZ (ks:=bI 6 ks) (by omega)
  refine bs e ?_
  obtain ⟨b2,e2⟩:=SM (l:=(bI 6 ks).filter fun k=> !(univ k)) (by have:=sP (fun k:Ex=> !(univ k)) (bI 6 ks);omega) fun k h=>SZ au k (nE.1 h).1
  cases b
  ·refine bF rfl ?_
   refine bs e2 ?_
   cases b2
   ·exact bF rfl (bs Be (bs (pj (z:=jh)) rfl))
   ·exact bT rfl (bs Be (bs (pj (z:=jh)) rfl))
  ·refine bT rfl ?_
   refine bs e2 ?_
   cases b2
   ·exact bF rfl (bs Be (bs (pj (z:=jh)) rfl))
   ·exact bT rfl (bs Be (bs (pj (z:=jh)) rfl))
theorem qP {o:Int} (ho:o=4∨o=5∨o=6):CC j7 [.int .i64 o,.list aa (ks.map enc)]=some (ia (dA o 0 ks)):=by
 refine SQ ?_
 unfold K3
 rcases ho with rfl|rfl|rfl
 ·exact bT rfl (bs (aeZ hk au hs) rfl)
 ·exact bF rfl (bT rfl (bs (aeY hk hs) rfl))
 ·exact bF rfl (bF rfl (bT rfl (bs (ae0 hk au hs) rfl)))
end
theorem K4 (k:Ex):[V.agg [.int .i64 k.op,.int .i64 k.cS,.list aa (k.kids.map enc)]]=[k].map enc:=by rw[←eC];rfl
theorem Fz {n o:Int} {k:Ex} (hk:Gd n k) (ho:o=7∨o=8):CC j7 [.int .i64 o,.list aa ([k].map enc)]=some (ia (dA o 0 [k])):=by
 refine SQ ?_
 unfold K3
 rcases ho with rfl|rfl
 ·refine bF rfl (bF rfl (bF rfl (bF rfl (bs (a:=k.enc) rfl (bF rfl (bT rfl ?_))))))
  rw[Av,bn,bp,bq,eL,eL,eL]
  by_cases h1:k.op=1
  ·rw[aj h1,aj (.inl h1)];exact bs Fy rfl
  ·rw[ai h1]
   by_cases U:k.op=2
   ·rw[aj U,aj (.inr U)];exact bs Fy rfl
   ·rw[ai U,ai (show¬(k.op=1∨k.op=2) by omega)]
    by_cases h7:k.op=7
    ·rw[aj h7,aj (.inl h7)];rfl
    ·rw[ai h7]
     refine bs (AA k) ?_
     cases hu:univ k with
     | true=>rw[aj (.inr rfl)];exact bT rfl rfl
     | false=>
      rw[ai (by rintro (h|h);exact h7 h;cases h)]
      refine bF rfl ?_
      rw[K4];rfl
 ·refine bF rfl (bF rfl (bF rfl (bF rfl (bs (a:=k.enc) rfl (bT rfl ?_)))))
  rw[Aw,bn,bp,bq,eL]
  by_cases h8:k.op=8
  ·rw[aj h8,aj h8]
   have hs:=eN hk.shape
   obtain ⟨o2,l2,lp⟩:=k
   simp only[Ex.op,Ex.kids,Ex.cS] at*
   match lp,(show (lp.length:Int)=1 by omega) with
   | [x],_=>
    refine bT (by simp) (bs (a:=x.enc) rfl ?_)
    rw[bn,bp,bq];rfl
  ·rw[ai h8,ai h8,K4];rfl
theorem S0 {α:Type} (a:List α) (x y:α) (b:List α) {i:Nat} (h:i=a.length):(a++x::b).set i y=(a++[y])++b:=by
 subst h;simp[List.set_append_right]
theorem ae1 {ks:List Ex} {a b c d:Int} {l1 l2:List V} (hn:ks.length≤1000000) (ih: ∀k∈ks,CC tV (bW k [])=some (ia (aK k))):
  ∀(aN pre:List Ex),ks=pre++aN→∃t,Loop (Fx CC (ks.map enc) ((ks.map enc).length:Int) a b l1 c d l2) (((pre.length:Nat):Int),(pre.map aK).map enc++List.replicate aN.length (V.agg [.int .i64 0,.int .i64 0,.list aa ([]:List V)]))=some (((ks.map enc).length:Int),t,(ks.map aK).map enc):=by
 intro aN
 induction aN with
 | nil=>
  intro pre e
  rw[dH] at e
  subst e
  refine ⟨false,bd ?_⟩
  simp only[Fx,Bb,un,ba]
  rw[aB,ai (by omega),bZ (by omega)]
  simp
 | cons k aN gh=>
  intro pre e
  have b7:pre.length<ks.length:=by rw[e];simp
  have cq:idx (ks.map enc) (pre.length:Int)=some k.enc:=by rw[e];exact j8 _ _ _
  obtain ⟨t,ht⟩:=gh (pre++[k]) (by simp[e])
  refine ⟨t,(bR ?_).trans ht⟩
  simp only[Fx,Bb,un,ba]
  rw[aB,aj (by omega),cq]
  simp only[Option.bind_some,bn,bp,bq]
  refine bs (ih k (by rw[e];simp)) ?_
  refine bT (by simp only[aI,dF,cv,ba,sM,List.length_cons];omega) ?_
  refine bs (a:=V.agg [.int .i64 0,.int .i64 0,.list aa ([]:List V)]) ?_ ?_
  ·rw[Int.toNat_natCast,ik (by simp)]
   simp
  ·rw[wrap64 (by omega) (by omega),Int.toNat_natCast,List.length_cons,List.replicate_succ,S0 _ _ _ _ (by simp)]
   show some (Sum.inl _)=some (Sum.inl _)
   refine congrArg (fun x=>some (Sum.inl x)) (Prod.ext ?_ ?_)
   ·simp
   ·simp only[fU,cO,gy]
    rw[eC (aK k)];rfl
theorem S3 {n:Int} (hn:n≤6): ∀e:Ex,e.wf n=true→e.size≤1000000→CC tV (bW e [])=some (ia (aK e)):=
 ind fun o l ks ih hw hs=>by
  obtain ⟨h1,U⟩:=hY hw
  have hl:=pk ks
  simp only[size] at hs
  have h3:=eN h1
  refine aeU ?_
  unfold SU
  simp only[Ex.op,Ex.kids,Ex.cS,ba,eL]
  rw[mh]
  by_cases h0:ks=[]
  ·subst h0
   rw[aj (by simp),lq (by simp only[List.length_nil] at h3;omega)]
   rfl
  ·have hp:0<ks.length:=List.length_pos_iff.2 h0
   rw[ai (by omega)]
   refine bT (by simp only[aI,dF,dN,qE,Int.toNat_natCast];omega) ?_
   obtain ⟨t,ht⟩:=ae1 (a:=o) (b:=l) (c:=0) (d:=0) (l1:=ks.map enc) (l2:=[]) (ks:=ks) (by omega) (fun k hk=>ih k hk (U k hk) (by have:=Al hk;omega)) ks [] rfl
   rw[ba] at ht
   refine bs ht ?_
   have hg: ∀k∈ks.map aK,Gd n k:=fun x hx=>by
    obtain ⟨k,hk,rfl⟩:=gx.1 hx
    exact lr k (U k hk)
   have hz:aJ (ks.map aK)≤aJ ks:=by
    clear ht h3 h1 hw ih hp h0 hl hs hg
    induction ks with
    | nil=>simp[aJ]
    | cons k ks ih=>have a:=Ax k (U k (by simp));have b:=ih fun k hk=>U k (by simp[hk]);simp only[cO,aJ];omega
   have au: ∀k∈ks.map aK,k.Ok:=fun k hk=>qI hn k (hg k hk).2 (by have:=Al hk;omega)
   rcases (show (o=4∨o=5∨o=6)∨(o=7∨o=8) by omega) with ho|ho
   ·obtain rfl:l=0:=by omega
    exact bs (qP hg au (by omega) ho) rfl
   ·obtain rfl:l=0:=by omega
    have h5:ks.length=1:=by omega
    match ks,h5 with
    | [k],_=>exact bs (Fz (hg (aK k) (by simp)) ho) rfl
theorem K5 (e:Ex) (h:e.Ok):CC wz (bW e [])=some (ia (if e.val 6=0 then aK e else aP)):=by
 refine aeV ?_
 unfold SV
 refine bs (QE e h) ?_
 by_cases hv:e.val 6=0
 ·have:=m7 hv
  rw[aj hv]
  refine bF (by simp[hv]) ?_
  exact bs (S3 (by omega) e this.2.2 (by omega)) rfl
 ·rw[ai hv]
  refine bT (by simp[hv]) ?_
  rfl
end Go.AM
set_option maxRecDepth 100000
namespace Go.AM
open Go.Proofs
def tab {α:Type} (n:Nat) (g:Nat→α):List α:=(List.range n).map g
section
variable {α β:Type} {n i:Nat} {g h:Nat→α}
@[simp] theorem aiV:(tab n g).length=n:=by simp[tab]
end
section
variable {γ:Type} {n i:Nat} {g:Nat→V}
theorem sA {es:List V} {v:V} (hi:es[i]? =some v) {K:V→Option γ}:(bif (decide (0≤(i:Int)))&&(decide ((i:Int)<(es.length:Int))) then (es[((i:Int)).toNat]?).bind K else none)=K v:=by
 have hl:i<es.length:=by
  rcases oE i es.length with h|h
  ·exact h
  ·rw[yc h] at hi;cases hi
 rw[Int.toNat_natCast,hi,u6.2 ⟨c7 (by omega),c7 (by omega)⟩]
 rfl
end
theorem cap {a b m:Nat} (h:a+b≤10000000) (hm:m≤1000):Nat.ble ((a+b)*m) cI=true:=by
 rw[dN,qE]
 have:=Nat.mul_le_mul h hm
 omega
theorem ae2 {n m:Nat} (h:n≤10000000) (hm:m≤1000):((decide (0≤(n:Int)))&&((decide ((n:Int)≤(n:Int)))&&(Nat.ble (((n:Int).toNat)*m) cI)))=true:=by
 have U:=Nat.mul_le_mul h hm
 rw[Int.toNat_natCast]
 refine u6.2 ⟨c7 (by omega),u6.2 ⟨c7 (by omega),?_⟩⟩
 rw[dN,qE]
 omega
theorem mq {i:Nat} (h:i≤1000000000):IntKind.wrap .i64 ((i:Int)+1)=((i+1:Nat):Int):=by rw[wrap64 (by omega) (by omega)];omega
theorem oz {i n:Nat} (h:i<n):decide ((i:Int)<(n:Int))=true:=c7 (by omega)
section
variable {X R:Type} {step:X→Option (X ⊕ R)}
theorem K6 (n:Nat) (s:Nat→X) (r:R) (h: ∀i,i<n→step (s i)=some (.inl (s (i+1)))) (he:step (s n)=some (.inr r)):Loop step (s 0)=some r:=YV s n h he
end
end Go.AM
set_option maxRecDepth 100000
namespace Go.AM
open Go.Proofs Ex
abbrev zE:V:= .agg [.int .i64 0,.int .i64 0,.list aa ([]:List V)]
theorem sB {α:Type} {A:List V} {n:Nat} {z:V} {i:Nat} (h:i=A.length) {K:V→Option α}:(bif (decide (0≤(i:Int)))&&(decide ((i:Int)<((A++List.replicate (n+1) z).length:Int))) then ((A++List.replicate (n+1) z)[((i:Int)).toNat]?).bind K else none)=K z:=by
 refine sA ?_
 rw[h,ik (cf _)]
 simp
theorem sC {A:List V} {n:Nat} {z v:V} {i:Nat} (h:i=A.length):(A++List.replicate (n+1) z).set i v=A++[v]++List.replicate n z:=by
 rw[List.replicate_succ,S0 _ _ _ _ h]
theorem ae3 (a:Ex):V.agg [.int .i64 a.op,.int .i64 a.cS,.list aa (a.kids.map enc)]=a.enc:=(eC a).symm
theorem K7 {n:Nat} (h:n≤1000000):Nat.ble (n*40) cI=true:=by rw[dN,qE];omega
theorem FA {n:Nat} (h:n≤1000000):((decide (0≤(n:Int)))&&((decide ((n:Int)≤(n:Int)))&&(Nat.ble (((n:Int).toNat)*40) cI)))=true:=ae2 (by omega) (by omega)
def oneOf (o:Int):List Ex→Ex
 | [k]=>k
 | l=> .node o 0 l
mutual
def cl (c:Int):Ex→Ex
 | .node o l ks=>
  if o=3 then (if l=c then jg else eb)
  else if o=4∨o=6∨o=8 then .node o 0 (xK c ks)
  else if o=7 then .node 5 0 [(xK c ks).getD 0 aP,.node o l ks]
  else if o=5 then oneOf 4 (iO c ks)
  else eb
def xK (c:Int):List Ex→List Ex
 | []=>[]
 | k::ks=>cl c k::xK c ks
def iO (c:Int):List Ex→List Ex
 | []=>[]
 | k::ks=>oneOf 5 (cl c k::ks)::(if k.c6=true then iO c ks else [])
end
theorem S4 {c:Int}: ∀ks,xK c ks=ks.map (cl c)
 | []=>by simp only[xK,gy]
 | k::ks=>by simp only[xK,cO,S4 ks]
theorem xL {c o l:Int} {ks:List Ex}:cl c (.node o l ks)=if o=3 then (if l=c then jg else eb) else if o=4∨o=6∨o=8 then .node o 0 (ks.map (cl c)) else if o=7 then .node 5 0 [(ks.map (cl c)).getD 0 aP,.node o l ks] else if o=5 then oneOf 4 (iO c ks) else eb:=by
 rw[cl,S4]
theorem FB {c:Int} {k:Ex} {ks:List Ex}:iO c (k::ks)=oneOf 5 (cl c k::ks)::(if k.c6=true then iO c ks else []):=by rw[iO]
theorem ae4 {o:Int} {k:Ex} {l:List Ex}:oneOf o (k::l)=if l=[] then k else .node o 0 (k::l):=by
 cases l with
 | nil=>rfl
 | cons x l=>rw[ai (by simp)];rfl
theorem S5 {n:Int}:eb.wf n=true:=uq (by simp[dz]) (by simp)
theorem ae5 {n:Int}:jg.wf n=true:=uq (by simp[dz]) (by simp)
theorem ae6 {n o l len:Int} (h:dz o l len n=true) (ho:o=4∨o=6∨o=8):dz o 0 len n=true:=by
 rcases eN h with h|⟨rfl,h⟩
 ·omega
 ·assumption
theorem S6 {n:Int} {o:Int} (ho:o=4∨o=5) {len:Int} (h:2≤len):dz o 0 len n=true:=by
 unfold dz
 rcases ho with rfl|rfl<;>simp[h]
theorem S7 {n:Int} {o:Int} (ho:o=4∨o=5) {l:List Ex} (hl:l≠[]) (h: ∀k∈l,k.wf n=true):(oneOf o l).wf n=true:=by
 match l,hl with
 | [k],_=>exact h k (by simp)
 | k::k2::l,_=>exact uq (S6 ho (by simp only[List.length_cons];omega)) h
theorem S8 {c:Int} {ks:List Ex} (h:ks≠[]):iO c ks≠[]:=by
 cases ks with
 | nil=>exact absurd rfl h
 | cons k ks=>rw[FB];simp
theorem FC {n c:Int}: ∀{ks:List Ex},(∀k∈ks,k.wf n=true)→(∀k∈ks,(cl c k).wf n=true)→∀x∈iO c ks,x.wf n=true
 | [],_,_,x,hx=>by rw[iO] at hx;cases hx
 | k::ks,h1,U,x,hx=>by
  rw[FB] at hx
  rcases df.1 hx with rfl|hx
  ·refine S7 (.inr rfl) (by simp) fun y hy=> ?_
   rcases df.1 hy with rfl|hy
   ·exact U k (by simp)
   ·exact h1 y (by simp[hy])
  ·split at hx
   ·exact FC (fun y hy=>h1 y (by simp[hy])) (fun y hy=>U y (by simp[hy])) x hx
   ·cases hx
theorem uR {n c:Int}: ∀e:Ex,e.wf n=true→(cl c e).wf n=true:=ind fun o l ks ih hw=>by
 obtain ⟨h1,U⟩:=hY hw
 have hk: ∀k∈ks,(cl c k).wf n=true:=fun k hk=>ih k hk (U k hk)
 rw[xL]
 split
 ·split
  ·exact ae5
  ·exact S5
 split
 ·next _ ho=>
  refine uq (by rw[ba];exact ae6 h1 ho) fun x hx=> ?_
  obtain ⟨k,lY,rfl⟩:=gx.1 hx
  exact hk k lY
 split
 ·next _ _ ho=>
  subst ho
  have hl:ks.length=1:=by rcases eN h1 with h|⟨_,h|h|h|h|h|h|h⟩<;>omega
  obtain ⟨k,rfl⟩:=yl.1 hl
  refine uq (S6 (.inr rfl) (by simp)) fun x hx=> ?_
  rcases df.1 hx with rfl|hx
  ·exact hk k (by simp)
  ·rw[dW.1 hx];exact hw
 split
 ·next _ _ _ ho=>
  subst ho
  have hl:2≤ks.length:=by rcases eN h1 with h|⟨_,h|h|h|h|h|h|h⟩<;>omega
  exact S7 (.inl rfl) (S8 (by intro h;rw[h] at hl;simp at hl)) (FC U hk)
 ·exact S5
theorem S9 {o:Int} {l:List Ex}:(oneOf o l).size≤1+aJ l:=by
 match l with
 | []=>simp[oneOf,size,aJ]
 | [k]=>simp[oneOf,aJ]
 | k::k2::l=>simp[oneOf,size]
theorem K8 {f:Ex→Ex}: ∀{ks:List Ex},(∀k∈ks,(f k).size≤k.size*k.size)→aJ (ks.map f)≤aJ ks*aJ ks
 | [],_=>by simp[aJ]
 | k::ks,h=>by
  have ih:=K8 (f:=f) (ks:=ks) fun x hx=>h x (by simp[hx])
  have hk:=h k (by simp)
  simp only[cO,aJ,dc,Nat.mul_add]
  omega
theorem K9 {c:Int}: ∀{ks:List Ex},(∀k∈ks,(cl c k).size≤k.size*k.size)→1+aJ (iO c ks)≤(1+aJ ks)*(1+aJ ks)
 | [],_=>by rw[iO];simp[aJ]
 | k::ks,h=>by
  have ih:=K9 (c:=c) (ks:=ks) fun x hx=>h x (by simp[hx])
  have hk:=h k (by simp)
  have h1:(oneOf 5 (cl c k::ks)).size≤1+((cl c k).size+aJ ks):=S9
  have hp:=k.size_pos
  have U:aJ (if k.c6=true then iO c ks else [])≤aJ (iO c ks):=by
   split
   ·exact cf _
   ·simp[aJ]
  have h3:1*aJ ks≤k.size*aJ ks:=dp _ hp
  have h4:aJ ks*k.size=k.size*aJ ks:=nA _ _
  rw[FB]
  simp only[aJ,dc,Nat.mul_add] at*
  omega
theorem Ta {c:Int}: ∀e:Ex,(∀n,e.wf n=true→(cl c e).size≤e.size*e.size):=ind fun o l ks ih n hw=>by
 obtain ⟨h1,U⟩:=hY hw
 have hk: ∀k∈ks,(cl c k).size≤k.size*k.size:=fun k hk=>ih k hk n (U k hk)
 have h3:1*1≤(Ex.node o l ks).size*(Ex.node o l ks).size:=Nat.mul_le_mul (size_pos _) (size_pos _)
 rw[xL]
 split
 ·split
  ·exact h3
  ·exact h3
 split
 ·have:=K8 hk
  simp only[size,dc,Nat.mul_add] at*
  omega
 split
 ·next _ _ ho=>
  subst ho
  have hl:ks.length=1:=by rcases eN h1 with h|⟨_,h|h|h|h|h|h|h⟩<;>omega
  obtain ⟨k,rfl⟩:=yl.1 hl
  have:=hk k (by simp)
  have hp:=k.size_pos
  simp only[cO,gy,yj,size,aJ,dc,Nat.mul_add,Nat.add_zero] at*
  omega
 split
 ·have h4:=K9 hk
  have h5:(oneOf 4 (iO c ks)).size≤1+aJ (iO c ks):=S9
  show _≤(1+aJ ks)*(1+aJ ks)
  omega
 ·exact h3
section
variable {n c:Int}
theorem ae7 {o l:Int} {ks:List Ex} (ho:o=4∨o=6∨o=8):aK (cl c (.node o l ks))=dA o 0 (ks.map fun k=>aK (cl c k)):=by
 rw[xL,ai (by omega),aj ho,mh,List.map_map]
 rfl
theorem ae8 {l:Int} {k:Ex}:aK (cl c (.node 7 l [k]))=dA 5 0 [aK (cl c k),aK (.node 7 l [k])]:=by
 rw[xL,ai (by omega),ai (by omega),aj rfl,mh]
 rfl
def FD (c:Int) (k:Ex) (ks:List Ex):Ex:=if (aK (cl c k)).op=1 then aK (cl c k) else dA 5 0 (aK (cl c k)::ks.map aK)
theorem ae9 {k:Ex} {ks:List Ex} (hk:k.wf n=true) (bf: ∀x∈ks,x.wf n=true):FD c k ks=aK (oneOf 5 (cl c k::ks)):=by
 have hg:=lr (n:=n) _ (uR (c:=c) k hk)
 unfold FD
 rw[ae4]
 by_cases hn:ks=[]
 ·subst hn
  rw[aj rfl,gy,acw hg]
  split<;>rfl
 ·rw[ai hn,mh,cO]
  by_cases h1:(aK (cl c k)).op=1
  ·rw[aj h1,ur,aj,empty_eq hg h1]
   have Dg: ∀x∈aK (cl c k)::ks.map aK,Gd n x:=fun x hx=>by
    rcases df.1 hx with rfl|hx
    ·exact hg
    ·obtain ⟨y,hy,rfl⟩:=gx.1 hx
     exact lr y (bf y hy)
   rw[Kt Dg]
   simp[h1]
  ·rw[ai h1]
def sD (c:Int):List Ex→List Ex
 | []=>[]
 | k::ks=>FD c k ks::(if k.c6=true then sD c ks else [])
theorem parts_eq: ∀{ks:List Ex},(∀x∈ks,x.wf n=true)→sD c ks=(iO c ks).map aK
 | [],_=>by rw[iO];rfl
 | k::ks,h=>by
  have ih:=parts_eq (ks:=ks) fun x hx=>h x (by simp[hx])
  rw[FB,cO,←ae9 (h k (by simp)) (fun x hx=>h x (by simp[hx]))]
  unfold sD
  refine congrArg _ ?_
  split
  ·exact ih
  ·rfl
theorem afa {l:Int} {ks:List Ex} (bu:ks≠[]) (hk: ∀x∈ks,x.wf n=true):aK (cl c (.node 5 l ks))=dA 4 0 (sD c ks):=by
 rw[xL,ai (by omega),ai (by omega),ai (by omega),aj rfl,parts_eq hk]
 have hw:=FC (c:=c) hk fun k lY=>uR k (hk k lY)
 have hn:=S8 (c:=c) bu
 generalize iO c ks=L at*
 match L,hn with
 | [x],_=>exact (acv (lr x (hw x (by simp)))).symm
 | x::y::L,_=>
  show aK (.node 4 0 _)=_
  rw[mh]
end
end Go.AM
set_option maxRecDepth 100000
namespace Go.AM
open Go.Proofs
noncomputable def Tb (C:ag) (bL:Int) (bK:Bool) (ah ar:Int) (af:List V):Option (List V):=
 bif bK then
  some [.int .i64 ah,.int .i64 ar,.list aa af]
 else
  (C tV [.int .i64 ah,.int .i64 ar,.list aa af]).bind fun r1=>
  some [.int .i64 ((V.nth r1 0).toInt),.int .i64 ((V.nth (r1.drop 1) 0).toInt),.list aa ((V.nth ((r1.drop 1).drop 1) 0).toList)]
theorem afb {bL:Int} {bK:Bool} {ah ar:Int} {af:List V} {r:Option (List V)} (h:Tb CC bL bK ah ar af=r):CC zS [.int .i64 bL,.bool bK,.int .i64 ah,.int .i64 ar,.list aa af]=r:=
 aY (key:=83) (L:=cb) (bs:=[]) (by kernel_rfl) av (aW (by kernel_rfl) h)
noncomputable abbrev Tc:Code:=cL Try.prog (ax.aX 68)
noncomputable def Bf (C:ag) (t21:List V) (t22 lA:Int) (lB:Bool) (gg eY:Int) (ee:List V) (kL kM qQ qR:Int) (qS:Bool) (ew gO:List V) (Bg t23:Int) (lC fi:List V) {β:Type} (kn:(Int × Int × (List V) × (List V))→Option β) (kr:(Int × Int × Bool × (List V) × (List V))→Option β):Option β:=
 bif decide ((t23:Int)<t22) then
  (idx t21 t23).bind fun x1=>
  (C oe [.int .i64 lA,.bool lB,.int .i64 ((x1.cell 0).toInt),.int .i64 ((x1.cell 1).toInt),.list aa ((x1.cell 2).toList)]).bind fun r2=>
  bif (decide (0≤t23))&&(decide (t23<(lC.length:Int))) then
  (lC[(t23:Int).toNat]?).bind fun x3=>
  bif (decide (0≤t23))&&(decide (t23<(fi.length:Int))) then
   (fi[(t23:Int).toNat]?).bind fun x4=>
   bif (V.nth ((((((r2.drop 1).drop 1).drop 1).drop 1).drop 1).drop 1) 0).toBool then
   kn (IntKind.wrap .i64 (Bg+1),IntKind.wrap .i64 (t23+1),lC.set ((t23:Int).toNat) (.agg [.int .i64 ((V.nth r2 0).toInt),.int .i64 ((V.nth (r2.drop 1) 0).toInt),.list aa ((V.nth ((r2.drop 1).drop 1) 0).toList)]),fi.set ((t23:Int).toNat) (.agg [.int .i64 ((V.nth (((r2.drop 1).drop 1).drop 1) 0).toInt),.int .i64 ((V.nth ((((r2.drop 1).drop 1).drop 1).drop 1) 0).toInt),.list aa ((V.nth (((((r2.drop 1).drop 1).drop 1).drop 1).drop 1) 0).toList)]))
   else
   kn (Bg,IntKind.wrap .i64 (t23+1),lC.set ((t23:Int).toNat) (.agg [.int .i64 ((V.nth r2 0).toInt),.int .i64 ((V.nth (r2.drop 1) 0).toInt),.list aa ((V.nth ((r2.drop 1).drop 1) 0).toList)]),fi.set ((t23:Int).toNat) (.agg [.int .i64 ((V.nth (((r2.drop 1).drop 1).drop 1) 0).toInt),.int .i64 ((V.nth ((((r2.drop 1).drop 1).drop 1).drop 1) 0).toInt),.list aa ((V.nth (((((r2.drop 1).drop 1).drop 1).drop 1).drop 1) 0).toList)]))
  else none
  else none
 else
  kr (Bg,t23,decide ((t23:Int)<t22),lC,fi)
noncomputable def FE (C:ag) (t21:List V) (t22 lA:Int) (lB:Bool) (gg eY:Int) (ee:List V) (kL kM qQ qR:Int) (qS:Bool) (ew gO:List V):(Int × Int × (List V) × (List V))→Option ((Int × Int × (List V) × (List V)) ⊕ (Int × Int × Bool × (List V) × (List V))):=un fun Bg=>un fun t23=>un fun lC fi=>Bf C t21 t22 lA lB gg eY ee kL kM qQ qR qS ew gO Bg t23 lC fi (fun y=>some (.inl y)) (fun r=>some (.inr r))
noncomputable def Td (C:ag):cB:=fun β n ds k=>
 bif Nat.beq n 65 then cj Jd [true,false,false,true,false,false,false,false,false,false,false,false,false,false,true,true,false,false] [[0,2,3,0,0,5,6,7,8,9,10,11,12,13,14,0,0,17,18]] (@Bf C) ds k else
 none
abbrev afc (C:ag) (b:cx):Prop:=cy Try.prog ax C (Td C) 68 (cP Try.prog (ax.aX 68)) (ax.sin 68).a8.length b
theorem afd (C:ag):afc C (.loop (aw [1,1,1,0,1,0,0] Tc)):=
 cr Jd [true,false,false,true,false,false,false,false,false,false,false,false,false,false,true,true,false,false] [[0,2,3,0,0,5,6,7,8,9,10,11,12,13,14,0,0,17,18]] (@Bf C) (by kernel_rfl) (bh (bs:=[]) (by kernel_rfl) av) (fun ds=>by kernel_rfl) (fun i x=>by kernel_rfl) (fun i x β k=>by kernel_rfl) (fun β ds k=>by kernel_rfl)
noncomputable def Te (C:ag) (bL:Int) (bK:Bool) (ah ar:Int) (af:List V):Option (List V):=
 bif (decide (0≤(af.length:Int)))&&((decide ((af.length:Int)≤(af.length:Int)))&&(Nat.ble ((((af.length:Int):Int).toNat)*40) cI)) then
  bif (decide (0≤(af.length:Int)))&&((decide ((af.length:Int)≤(af.length:Int)))&&(Nat.ble ((((af.length:Int):Int).toNat)*40) cI)) then
  (Loop (FE C af (af.length:Int) bL bK ah ar af 0 0 0 0 false ([]:List V) ([]:List V)) (0,0,List.replicate (((af.length:Int):Int).toNat) (V.agg [.int .i64 0,.int .i64 0,.list aa ([]:List V)]),List.replicate (((af.length:Int):Int).toNat) (V.agg [.int .i64 0,.int .i64 0,.list aa ([]:List V)]))).bind (un fun (La:Int)=>un fun (oo:Int)=>un fun (ph:Bool)=>un fun (afe:List V) (aff:List V)=>
   (C j7 [.int .i64 ah,.list aa afe]).bind fun dV=>
   (C j7 [.int .i64 ah,.list aa aff]).bind fun eR=>
   bif (ah:Int)==4 then
    some [.int .i64 ((V.nth dV 0).toInt),.int .i64 ((V.nth (dV.drop 1) 0).toInt),.list aa ((V.nth ((dV.drop 1).drop 1) 0).toList),.int .i64 ((V.nth eR 0).toInt),.int .i64 ((V.nth (eR.drop 1) 0).toInt),.list aa ((V.nth ((eR.drop 1).drop 1) 0).toList),.bool (decide ((La:Int)>0))]
   else
    bif (ah:Int)==6 then
    some [.int .i64 ((V.nth dV 0).toInt),.int .i64 ((V.nth (dV.drop 1) 0).toInt),.list aa ((V.nth ((dV.drop 1).drop 1) 0).toList),.int .i64 ((V.nth eR 0).toInt),.int .i64 ((V.nth (eR.drop 1) 0).toInt),.list aa ((V.nth ((eR.drop 1).drop 1) 0).toList),.bool ((La:Int)==(af.length:Int))]
    else
    bif (ah:Int)==8 then
     some [.int .i64 ((V.nth dV 0).toInt),.int .i64 ((V.nth (dV.drop 1) 0).toInt),.list aa ((V.nth ((dV.drop 1).drop 1) 0).toList),.int .i64 ((V.nth eR 0).toInt),.int .i64 ((V.nth (eR.drop 1) 0).toInt),.list aa ((V.nth ((eR.drop 1).drop 1) 0).toList),.bool ((La:Int)==0)]
    else
     some [.int .i64 ((V.nth dV 0).toInt),.int .i64 ((V.nth (dV.drop 1) 0).toInt),.list aa ((V.nth ((dV.drop 1).drop 1) 0).toList),.int .i64 ((V.nth eR 0).toInt),.int .i64 ((V.nth (eR.drop 1) 0).toInt),.list aa ((V.nth ((eR.drop 1).drop 1) 0).toList),.bool false])
  else none
 else none
theorem afg {bL:Int} {bK:Bool} {ah ar:Int} {af:List V} {r:Option (List V)} (h:Te CC bL bK ah ar af=r):CC wC [.int .i64 bL,.bool bK,.int .i64 ah,.int .i64 ar,.list aa af]=r:=
 aY (key:=68) (L:=Td CC) (bs:=[.loop (aw [1,1,1,0,1,0,0] Tc)]) (by kernel_rfl) (bG (afd CC) av) (aW (by kernel_rfl) h)
end Go.AM
