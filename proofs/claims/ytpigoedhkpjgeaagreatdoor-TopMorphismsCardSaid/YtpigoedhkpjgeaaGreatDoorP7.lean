/-
  Functions of the program, lifted to plain data.
-/
import Derived.Test.YtpigoedhkpjgeaaGreatDoorP6
set_option linter.unusedVariables false
set_option linter.unusedSimpArgs false
set_option linter.unusedSectionVars false
set_option maxRecDepth 100000
namespace Go.AM
open Go.IntKind (wrap)
open Go.Proofs
noncomputable def yO (C:af) (x n:Int) (t4:Bool) {β:Type} (kr:(Int×Int)→Option β):Option β:=
 bif t4 then
  kr (Int.fdiv x (2^(min (32:Int).toNat (IntKind.bits .u64))),32)
 else
  kr (x,n)
noncomputable def yP (C:af) (x n:Int) (t8:Bool) {β:Type} (kr:(Int×Int)→Option β):Option β:=
 bif t8 then
  kr (Int.fdiv x (2^(min (16:Int).toNat (IntKind.bits .u64))),wrap .i64 (n+16))
 else
  kr (x,n)
noncomputable def adW (C:af):cx:=o9 79 Sv [[0,0]] (@yO C) (o9 143 Sw [[0,0]] (@yP C) bA)
theorem ap4 (C:af):aZ C (adW C) 98 (Cd 4 [1,0,1,0] [1,0,1,1] 98):=o8 Sv [[0,0]] (@yO C) (aR au) (aR au)
theorem ap5 (C:af):aZ C (adW C) 98 (Cd 8 [1,1,0,1,0] [1,1,0,1,1] 98):=o8 Sw [[0,0]] (@yP C) (aR au) (aR au)
noncomputable def ap6 (C:af) (x:Int):Option LV:=
 yO C x 0 (decide (x≥4294967296)) (un fun (wF:Int) (GO:Int)=>
  yP C wF GO (decide (wF≥65536)) (un fun (GP:Int) (n_4:Int)=>
   bif decide (GP≥256) then
    (bif decide (0≤(wrap .u8 (Int.fdiv GP (2^(min (8:Int).toNat (IntKind.bits .u64)))))) then (Aj[(wrap .u8 (Int.fdiv GP (2^(min (8:Int).toNat (IntKind.bits .u64)))):Int).toNat]?).map fun b=>V.int .u8 b.toNat else none).bind fun x5=>
    some [V.int .i64 (wrap .i64 ((wrap .i64 (n_4+8))+(wrap .i64 x5.toInt)))]
   else
    (bif decide (0≤(wrap .u8 GP)) then (Aj[(wrap .u8 GP:Int).toNat]?).map fun b=>V.int .u8 b.toNat else none).bind fun x6=>
    some [V.int .i64 (wrap .i64 (n_4+(wrap .i64 x6.toInt)))]))
theorem adX {x:Int} {r:Option LV} (h:ap6 CC x=r):CC Kw [.int .u64 x]=r:=bz (aY (ap4 CC) (aY (ap5 CC) au)) h
noncomputable def Bz (C:af) (a b' lk:Int) (fR gp:Bool) (length:Int) (t35:Bool) (an:LV) {β:Type} (kr:(Int×LV)→Option β):Option β:=
 bif t35 then
  (C Kt [V.int .i64 a,V.int .i64 b',.list ae an]).bind fun r3=>
  kr (wrap .i64 (lk-1),(V.nth r3 0).toList)
 else
  kr (lk,an)
noncomputable def BA (C:af) (a b' lk:Int) (fR gp:Bool) (length pivot hint:Int) (t50:Bool) (an:LV) {β:Type} (kr:(Int×Int×LV)→Option β):Option β:=
 bif t50 then
  (C Ku [V.int .i64 a,V.int .i64 b',.list ae an]).bind fun r7=>
  kr (wrap .i64 ((wrap .i64 (b'-1))-(wrap .i64 (pivot-a))),1,(V.nth r7 0).toList)
 else
  kr (pivot,hint,an)
noncomputable def po (C:af) (a b' lk:Int) (fR gp:Bool) (length pivot:Int) (t68:Bool) (an:LV) {β:Type} (kr:((Bool×LV) ⊕ LV)→Option β):Option β:=
 bif t68 then
  (C Kv [V.int .i64 a,V.int .i64 b',.list ae an]).bind fun dt=>
  bif (V.nth dt 0).toBool then
  kr (.inl ((V.nth dt 0).toBool,(V.nth (dt.drop 1) 0).toList))
  else
  kr (.inr ((V.nth (dt.drop 1) 0).toList))
 else
  kr (.inr an)
noncomputable def s8 (C:af) (a b' lk:Int) (fR gp:Bool) (an:LV) {β:Type} (kn:(Int×Int×Int×Bool×Bool×LV)→Option β) (kr:LV→Option β):Option β:=
 bif decide (((wrap .i64 (b'-a)):Int)≤12) then
  (C D9 [V.int .i64 a,V.int .i64 b',.list ae an]).bind fun r1=>
  kr ((V.nth r1 0).toList)
 else
  bif lk==0 then
  (C Ea [V.int .i64 a,V.int .i64 b',.list ae an]).bind fun r2=>
  kr ((V.nth r2 0).toList)
  else
  Bz C a b' lk fR gp (wrap .i64 (b'-a)) (!fR) an (un fun (dn:Int) (GQ:LV)=>
   (C Eb [.list ae GQ,V.int .i64 a,V.int .i64 b']).bind fun r6=>
   BA C a b' dn fR gp (wrap .i64 (b'-a)) ((V.nth r6 0).toInt) ((V.nth (r6.drop 1) 0).toInt) ((((V.nth (r6.drop 1) 0).toInt):Int)==2) GQ (un fun gq=>un fun (Uu:Int) (rA:LV)=>
    bif fR then
     bif gp then
     po C a b' dn fR gp (wrap .i64 (b'-a)) gq (Uu==1) rA (cM (un fun (sY:Bool) (Uk:LV)=>
      kr Uk) (fun (GR:LV)=>
      bif decide (a>0) then
       aq GR (wrap .i64 (a-1)) fun rE=>
       aq GR gq fun qk=>
       (C jy [V.int .i64 rE.toInt,V.int .i64 qk.toInt]).bind fun fv=>
       bif !((V.nth fv 0).toBool) then
       (C xS [V.int .i64 a,V.int .i64 b',V.int .i64 gq,.list ae GR]).bind fun BB=>
       kn ((V.nth BB 0).toInt,b',dn,fR,gp,(V.nth (BB.drop 1) 0).toList)
       else
       (C qb [V.int .i64 a,V.int .i64 b',V.int .i64 gq,.list ae GR]).bind fun mU=>
       bif decide (((wrap .i64 (((V.nth mU 0).toInt)-a)):Int)<(wrap .i64 (b'-((V.nth mU 0).toInt)))) then
        (C ja [V.int .i64 a,V.int .i64 ((V.nth mU 0).toInt),V.int .i64 dn,.list ae ((V.nth (mU.drop 2) 0).toList)]).bind fun jf=>
        kn (wrap .i64 (((V.nth mU 0).toInt)+1),b',dn,decide (((wrap .i64 (((V.nth mU 0).toInt)-a)):Int)≥(wrap .i64 (Int.tdiv (wrap .i64 (b'-a)) 8))),(V.nth (mU.drop 1) 0).toBool,(V.nth jf 0).toList)
       else
        (C ja [V.int .i64 (wrap .i64 (((V.nth mU 0).toInt)+1)),V.int .i64 b',V.int .i64 dn,.list ae ((V.nth (mU.drop 2) 0).toList)]).bind fun wG=>
        kn (a,(V.nth mU 0).toInt,dn,decide (((wrap .i64 (b'-((V.nth mU 0).toInt))):Int)≥(wrap .i64 (Int.tdiv (wrap .i64 (b'-a)) 8))),(V.nth (mU.drop 1) 0).toBool,(V.nth wG 0).toList)
      else
       (C qb [V.int .i64 a,V.int .i64 b',V.int .i64 gq,.list ae GR]).bind fun mQ=>
       bif decide (((wrap .i64 (((V.nth mQ 0).toInt)-a)):Int)<(wrap .i64 (b'-((V.nth mQ 0).toInt)))) then
       (C ja [V.int .i64 a,V.int .i64 ((V.nth mQ 0).toInt),V.int .i64 dn,.list ae ((V.nth (mQ.drop 2) 0).toList)]).bind fun r23=>
       kn (wrap .i64 (((V.nth mQ 0).toInt)+1),b',dn,decide (((wrap .i64 (((V.nth mQ 0).toInt)-a)):Int)≥(wrap .i64 (Int.tdiv (wrap .i64 (b'-a)) 8))),(V.nth (mQ.drop 1) 0).toBool,(V.nth r23 0).toList)
       else
       (C ja [V.int .i64 (wrap .i64 (((V.nth mQ 0).toInt)+1)),V.int .i64 b',V.int .i64 dn,.list ae ((V.nth (mQ.drop 2) 0).toList)]).bind fun r24=>
       kn (a,(V.nth mQ 0).toInt,dn,decide (((wrap .i64 (b'-((V.nth mQ 0).toInt))):Int)≥(wrap .i64 (Int.tdiv (wrap .i64 (b'-a)) 8))),(V.nth (mQ.drop 1) 0).toBool,(V.nth r24 0).toList)))
     else
     po C a b' dn fR gp (wrap .i64 (b'-a)) gq false rA (cM (un fun (anz:Bool) (ap7:LV)=>
      kr ap7) (fun (yJ:LV)=>
      bif decide (a>0) then
       aq yJ (wrap .i64 (a-1)) fun yK=>
       aq yJ gq fun yL=>
       (C jy [V.int .i64 yK.toInt,V.int .i64 yL.toInt]).bind fun Br=>
       bif !((V.nth Br 0).toBool) then
       (C xS [V.int .i64 a,V.int .i64 b',V.int .i64 gq,.list ae yJ]).bind fun MK=>
       kn ((V.nth MK 0).toInt,b',dn,fR,gp,(V.nth (MK.drop 1) 0).toList)
       else
       (C qb [V.int .i64 a,V.int .i64 b',V.int .i64 gq,.list ae yJ]).bind fun qm=>
       bif decide (((wrap .i64 (((V.nth qm 0).toInt)-a)):Int)<(wrap .i64 (b'-((V.nth qm 0).toInt)))) then
        (C ja [V.int .i64 a,V.int .i64 ((V.nth qm 0).toInt),V.int .i64 dn,.list ae ((V.nth (qm.drop 2) 0).toList)]).bind fun r33=>
        kn (wrap .i64 (((V.nth qm 0).toInt)+1),b',dn,decide (((wrap .i64 (((V.nth qm 0).toInt)-a)):Int)≥(wrap .i64 (Int.tdiv (wrap .i64 (b'-a)) 8))),(V.nth (qm.drop 1) 0).toBool,(V.nth r33 0).toList)
       else
        (C ja [V.int .i64 (wrap .i64 (((V.nth qm 0).toInt)+1)),V.int .i64 b',V.int .i64 dn,.list ae ((V.nth (qm.drop 2) 0).toList)]).bind fun r34=>
        kn (a,(V.nth qm 0).toInt,dn,decide (((wrap .i64 (b'-((V.nth qm 0).toInt))):Int)≥(wrap .i64 (Int.tdiv (wrap .i64 (b'-a)) 8))),(V.nth (qm.drop 1) 0).toBool,(V.nth r34 0).toList)
      else
       (C qb [V.int .i64 a,V.int .i64 b',V.int .i64 gq,.list ae yJ]).bind fun nL=>
       bif decide (((wrap .i64 (((V.nth nL 0).toInt)-a)):Int)<(wrap .i64 (b'-((V.nth nL 0).toInt)))) then
       (C ja [V.int .i64 a,V.int .i64 ((V.nth nL 0).toInt),V.int .i64 dn,.list ae ((V.nth (nL.drop 2) 0).toList)]).bind fun r36=>
       kn (wrap .i64 (((V.nth nL 0).toInt)+1),b',dn,decide (((wrap .i64 (((V.nth nL 0).toInt)-a)):Int)≥(wrap .i64 (Int.tdiv (wrap .i64 (b'-a)) 8))),(V.nth (nL.drop 1) 0).toBool,(V.nth r36 0).toList)
       else
       (C ja [V.int .i64 (wrap .i64 (((V.nth nL 0).toInt)+1)),V.int .i64 b',V.int .i64 dn,.list ae ((V.nth (nL.drop 2) 0).toList)]).bind fun r37=>
       kn (a,(V.nth nL 0).toInt,dn,decide (((wrap .i64 (b'-((V.nth nL 0).toInt))):Int)≥(wrap .i64 (Int.tdiv (wrap .i64 (b'-a)) 8))),(V.nth (nL.drop 1) 0).toBool,(V.nth r37 0).toList)))
    else
     po C a b' dn fR gp (wrap .i64 (b'-a)) gq false rA (cM (un fun (ap8:Bool) (ap9:LV)=>
      kr ap9) (fun (rF:LV)=>
      bif decide (a>0) then
      aq rF (wrap .i64 (a-1)) fun Gx=>
      aq rF gq fun LU=>
      (C jy [V.int .i64 Gx.toInt,V.int .i64 LU.toInt]).bind fun r43=>
      bif !((V.nth r43 0).toBool) then
       (C xS [V.int .i64 a,V.int .i64 b',V.int .i64 gq,.list ae rF]).bind fun r44=>
       kn ((V.nth r44 0).toInt,b',dn,fR,gp,(V.nth (r44.drop 1) 0).toList)
      else
       (C qb [V.int .i64 a,V.int .i64 b',V.int .i64 gq,.list ae rF]).bind fun qn=>
       bif decide (((wrap .i64 (((V.nth qn 0).toInt)-a)):Int)<(wrap .i64 (b'-((V.nth qn 0).toInt)))) then
       (C ja [V.int .i64 a,V.int .i64 ((V.nth qn 0).toInt),V.int .i64 dn,.list ae ((V.nth (qn.drop 2) 0).toList)]).bind fun r46=>
       kn (wrap .i64 (((V.nth qn 0).toInt)+1),b',dn,decide (((wrap .i64 (((V.nth qn 0).toInt)-a)):Int)≥(wrap .i64 (Int.tdiv (wrap .i64 (b'-a)) 8))),(V.nth (qn.drop 1) 0).toBool,(V.nth r46 0).toList)
       else
       (C ja [V.int .i64 (wrap .i64 (((V.nth qn 0).toInt)+1)),V.int .i64 b',V.int .i64 dn,.list ae ((V.nth (qn.drop 2) 0).toList)]).bind fun r47=>
       kn (a,(V.nth qn 0).toInt,dn,decide (((wrap .i64 (b'-((V.nth qn 0).toInt))):Int)≥(wrap .i64 (Int.tdiv (wrap .i64 (b'-a)) 8))),(V.nth (qn.drop 1) 0).toBool,(V.nth r47 0).toList)
      else
      (C qb [V.int .i64 a,V.int .i64 b',V.int .i64 gq,.list ae rF]).bind fun qo=>
      bif decide (((wrap .i64 (((V.nth qo 0).toInt)-a)):Int)<(wrap .i64 (b'-((V.nth qo 0).toInt)))) then
       (C ja [V.int .i64 a,V.int .i64 ((V.nth qo 0).toInt),V.int .i64 dn,.list ae ((V.nth (qo.drop 2) 0).toList)]).bind fun r49=>
       kn (wrap .i64 (((V.nth qo 0).toInt)+1),b',dn,decide (((wrap .i64 (((V.nth qo 0).toInt)-a)):Int)≥(wrap .i64 (Int.tdiv (wrap .i64 (b'-a)) 8))),(V.nth (qo.drop 1) 0).toBool,(V.nth r49 0).toList)
      else
       (C ja [V.int .i64 (wrap .i64 (((V.nth qo 0).toInt)+1)),V.int .i64 b',V.int .i64 dn,.list ae ((V.nth (qo.drop 2) 0).toList)]).bind fun r50=>
       kn (a,(V.nth qo 0).toInt,dn,decide (((wrap .i64 (b'-((V.nth qo 0).toInt))):Int)≥(wrap .i64 (Int.tdiv (wrap .i64 (b'-a)) 8))),(V.nth (qo.drop 1) 0).toBool,(V.nth r50 0).toList)))))
noncomputable def adY (C:af):=un fun a=>un fun b'=>un fun lk=>un fun fR=>un fun gp an=>s8 C a b' lk fR gp an (fun y=>some (Sum.inl y)) (fun r=>some (Sum.inr r))
noncomputable def ML (C:af):cx:=o9 575 RD [[1,2,0,4,5,6,0]] (@Bz C) (o9 815 RE [[1,2,3,4,5,6,0,0,0]] (@BA C) (o9 1103 RF [[1,2,3,4,5,6,7,0,0],[1,2,3,4,5,6,7,0]] (@po C) (br 33 RG [H1,H1,H1,H1,H1,H1] [[0]] (@s8 C) bA)))
theorem aqa (C:af):aZ C (ML C) 61 (Cd 35 [1,1,0,0,0,1,1,1,0,1,0] [1,1,0,0,0,1,1,1,0,1,1] 61):=o8 RD [[1,2,0,4,5,6,0]] (@Bz C) (aR au) (aR au)
theorem aqb (C:af):aZ C (ML C) 61 (Cd 50 [1,1,0,0,0,1,1,1,1,1,0,1,0] [1,1,0,0,0,1,1,1,1,1,0,1,1] 61):=o8 RE [[1,2,3,4,5,6,0,0,0]] (@BA C) (aR au) (aR au)
theorem aqc (C:af):aZ C (ML C) 61 (Cd 68 [1,1,0,0,0,1,1,1,1,1,1,0,1,0] [1,1,0,0,0,1,1,1,1,1,1,0,1,1] 61):=o8 RF [[1,2,3,4,5,6,7,0,0],[1,2,3,4,5,6,7,0]] (@po C) (aR au) (aR au)
theorem aqd (C:af):aZ C (ML C) 61 (Lp [1,1,0,0] 61):=bq RG [H1,H1,H1,H1,H1,H1] [[0]] (@s8 C) (aR (aY (aqa C) (aY (aqb C) (aY (aqc C) au))))
noncomputable def adZ (C:af) (a b' lk:Int) (an:LV):Option LV:=
 (Loop (adY C) (a,b',lk,true,true,an)).bind (fun (Fw:LV)=>
  some [.list ae Fw])
theorem aqe {a b' lk:Int} {an:LV} {r:Option LV} (h:adZ CC a b' lk an=r):CC ja [V.int .i64 a,V.int .i64 b',V.int .i64 lk,.list ae an]=r:=bz (aY (aqd CC) au) h
end Go.AM
set_option maxRecDepth 100000
set_option maxHeartbeats 4000000
namespace Go.AM.SO
open Go.Proofs Go.Sort
theorem ad0 (a b:Int):(aC a b=false)= ¬(cD a b<0):=by rw[←wD];simp
theorem BC:SWO (aC):=ao8
def MM:List UInt8:=Aj
theorem aqf:(List.range 256).all (fun y=>match MM[y]? with|some b=>decide (b.toNat≤8)&&(Nat.beq y 0||(decide (1≤b.toNat)&&decide (2^(b.toNat-1)≤y)))|none=>false)=true:=by decide+kernel
theorem ad1 {y:Nat} (h:y<256): ∃b,MM[y]? =some b∧b.toNat≤8∧(0<y→1≤b.toNat∧2^(b.toNat-1)≤y):=by
 have:=fL.1 aqf y (fg.2 h);cases hb:MM[y]? with
 | none=>rw[hb] at this;cases this
 | some b=>
  rw[hb] at this;simp only[aK,B7,fK] at this;refine ⟨b,rfl,this.1,fun hy=> ?_⟩;rcases this.2 with h2|h2
  ·have:=BV h2;omega
  ·exact h2
theorem Uv {y t k:Nat} (h:2^(t-1)≤y/2^k) (ht:1≤t):2^(t+k-1)≤y:=by
 have e:t+k-1=(t-1)+k:=by omega
 rw[e,Nat.pow_add];exact ln (dZ _ h) (Nat.div_mul_le_self _ _)
noncomputable def BD (y n:Int):Option (List V):=
(bif decide ((y:Int)≥256) then
    (bif decide (0≤(wrap .u8 (Int.fdiv y (2^(min (8:Int).toNat (IntKind.bits .u64)))))) then (Aj[(wrap .u8 (Int.fdiv y (2^(min (8:Int).toNat (IntKind.bits .u64)))):Int).toNat]?).map fun b=>V.int .u8 b.toNat else none).bind fun x5=>
    some [V.int .i64 (wrap .i64 ((wrap .i64 (n+8))+(wrap .i64 x5.toInt)))]
   else
    (bif decide (0≤(wrap .u8 y)) then (Aj[(wrap .u8 y:Int).toNat]?).map fun b=>V.int .u8 b.toNat else none).bind fun x6=>
    some [V.int .i64 (wrap .i64 (n+(wrap .i64 x6.toInt)))])
theorem aqg {x:Nat} (h:x<2^64): ∃L:Nat,CC Kw [.int .u64 (x:Int)]=some [.int .i64 (L:Int)]∧L≤64∧(0<x→1≤L∧2^(L-1)≤x):=by
 have last: ∀y n:Nat,y<65536→n≤48→∃t:Nat,
   BD (y:Int) (n:Int)=some [V.int .i64 ((n+t:Nat):Int)]∧t≤16∧(0<y→1≤t∧2^(t-1)≤y):=by
  intro y n hy hn;unfold BD;rw[show Aj=MM from rfl];by_cases h1:y≥256
  ·have e:Int.fdiv (y:Int) (2^(min (8:Int).toNat (IntKind.bits .u64)))=((y/2^8:Nat):Int):=SJ (m:=8) (by omega);obtain ⟨b,hb,b1,b2⟩:=ad1 (y:=y/2^8) (by omega);refine ⟨b.toNat+8,?_,by omega,fun _=> ?_⟩
   ·rw[e,bu,bt,JN (by omega) (by omega),bu,bt,Int.toNat_natCast,hb];simp only[Option.map_some,Option.bind_some,V.toInt_int,V.dP];simp (disch:=omega) only[wrap64];congr 3;omega
   ·obtain ⟨b3,b4⟩:=b2 (by omega);exact ⟨by omega,Uv b4 b3⟩
  ·obtain ⟨b,hb,b1,b2⟩:=ad1 (y:=y) (by omega);refine ⟨b.toNat,?_,by omega,b2⟩;rw[bu,bN,JN (by omega) (by omega),bu,bt,Int.toNat_natCast,hb];simp (disch:=omega) only[Option.map_some,Option.bind_some,V.toInt_int,V.dP,wrap64];congr 3
 have mid: ∀y n:Nat,y<4294967296→n≤32→∃t:Nat,∀F:Int→Int→Option (List V),
   (∀y n:Nat,y<65536→n≤48→∃t:Nat,F (y:Int) (n:Int)=some [V.int .i64 ((n+t:Nat):Int)]∧t≤16∧(0<y→1≤t∧2^(t-1)≤y))→
   ∃t:Nat,yP CC (y:Int) (n:Int) (decide (((y:Int):Int)≥65536)) (un F)=some [V.int .i64 ((n+t:Nat):Int)]∧t≤32∧(0<y→1≤t∧2^(t-1)≤y):=by
  intro y n hy hn;refine ⟨0,fun F hF=> ?_⟩;unfold yP;by_cases h1:y≥65536
  ·have e:Int.fdiv (y:Int) (2^(min (16:Int).toNat (IntKind.bits .u64)))=((y/2^16:Nat):Int):=SJ (m:=16) (by omega);rw[bu,bt,e,gB];obtain ⟨t,h2,h3,h4⟩:=hF (y/2^16) (n+16) (by omega) (by omega);refine ⟨t+16,?_,by omega,fun _=> ?_⟩
   ·rw[show ((n:Int)+16)=((n+16:Nat):Int) by omega];simp only[un];rw[h2];congr 3;omega
   ·obtain ⟨b3,b4⟩:=h4 (by omega);exact ⟨by omega,Uv b4 b3⟩
  ·rw[bu,bN];obtain ⟨t,h2,h3,h4⟩:=hF y n (by omega) (by omega);exact ⟨t,h2,by omega,h4⟩
 by_cases h1:x≥4294967296
 ·have e:Int.fdiv (x:Int) (2^(min (32:Int).toNat (IntKind.bits .u64)))=((x/2^32:Nat):Int):=SJ (m:=32) (by omega);obtain ⟨_,hm⟩:=mid (x/2^32) 32 (by omega) (by omega);obtain ⟨t,h2,h3,h4⟩:=hm BD last;refine ⟨32+t,adX ?_,by omega,fun _=> ?_⟩
  ·show yO CC (x:Int) 0 (decide (((x:Int):Int)≥4294967296)) (un fun (wF:Int) (GO:Int)=>yP CC wF GO (decide ((wF:Int)≥65536)) (un BD))=_;unfold yO;rw[bu,bt,e];exact h2
  ·obtain ⟨b3,b4⟩:=h4 (by omega);rw[Nat.add_comm 32 t];exact ⟨by omega,Uv b4 b3⟩
 ·obtain ⟨_,hm⟩:=mid x 0 (by omega) (by omega);obtain ⟨t,h2,h3,h4⟩:=hm BD last;refine ⟨t,adX ?_,by omega,h4⟩;show yO CC (x:Int) 0 (decide (((x:Int):Int)≥4294967296)) (un fun (wF:Int) (GO:Int)=>yP CC wF GO (decide ((wF:Int)≥65536)) (un BD))=_;unfold yO;rw[bu,bN];rw[eQ] at h2;exact h2
theorem ad2 {x:Nat} (h:x<2^64): ∃L:Nat,CC D5 [.int .u64 (x:Int)]=some [.int .i64 (L:Int)]∧L≤64∧(0<x→1≤L∧2^(L-1)≤x):=by
 obtain ⟨L,h1,h2⟩:=aqg h;refine ⟨L,ap3 ?_,h2⟩;unfold adV;rw[h1];rfl
theorem aqh {x:Nat} (h0:0<x) (h:x<1152921504606846976): ∃M:Nat,CC Kz [.int .i64 (x:Int)]=some [.int .u64 (M:Int)]∧1≤M∧M≤2*x:=by
 obtain ⟨L,h1,h2,h3⟩:=ad2 (x:=x) (by omega);obtain ⟨h4,h5⟩:=h3 h0;have e:2^L=2*2^(L-1):=by
  obtain ⟨k,rfl⟩: ∃k,L=k+1:=⟨L-1,by omega⟩
  rw[Nat.pow_succ];simp only[Nat.add_sub_cancel];omega
 have hL:L<64:=by
  by_cases hx:L<64
  ·exact hx
  ·have:2^63≤2^(L-1):=Nat.pow_le_pow_right (by omega) (by omega);omega
 refine ⟨2^L,ap2 ?_,Nat.pos_of_ne_zero (by simp),by omega⟩;unfold adU;rw[EM (A:=x) (by omega),h1];simp only[Option.bind_some,V.dF,V.toInt_int,V.dP];rw[bu,bt,Int.toNat_natCast,ak4 hL]
theorem aqi (r:Int): ∃R:Nat,CC KA [.int .u64 r]=some [.int .u64 (R:Int),.int .u64 (R:Int)]∧R<2^64:=by
 have h: ∀n:Int,∃R:Nat,wrap .u64 n=(R:Int)∧R<2^64:=fun n=>⟨(wrap .u64 n).toNat,by rw[wrap_u64];omega,by rw[wrap_u64];omega⟩
 obtain ⟨R,h1,h2⟩:=h _;exact ⟨R,ap1 (by unfold adT;rw[h1]),h2⟩
theorem MN {d:Array Int} {i:Nat} (h:i<d.size):idx (eA d) (i:Int)=some (rD (d[i]!)):=by rw[JO,iK h]
theorem Uw {d:Array Int} {a b:Nat} {s:Int} (ha:a<d.size) (hb:b<d.size): ∃(x y:Nat) (s':Int),CC AD [.list ae (eA d),.int .i64 (a:Int),.int .i64 (b:Int),.int .i64 s]=some [.int .i64 (x:Int),.int .i64 (y:Int),.int .i64 s']∧(x=a∧y=b∨x=b∧y=a):=by
 by_cases h:cD d[b]! d[a]! <0
 ·refine ⟨b,a,_,adO (by unfold Us;rw[MN hb,MN ha];simp only[Option.bind_some,gf,je,V.dF,V.toInt_int,V.dP];rw[bu,ak h]),.inr ⟨rfl,rfl⟩⟩
 ·refine ⟨a,b,_,adO (by unfold Us;rw[MN hb,MN ha];simp only[Option.bind_some,gf,je,V.dF,V.toInt_int,V.dP];rw[bu,aj h]),.inl ⟨rfl,rfl⟩⟩
theorem Ux {d:Array Int} {a b c:Nat} {s:Int} (ha:a<d.size) (hb:b<d.size) (hc:c<d.size): ∃(m:Nat) (s':Int),CC Eg [.list ae (eA d),.int .i64 (a:Int),.int .i64 (b:Int),.int .i64 (c:Int),.int .i64 s]=some [.int .i64 (m:Int),.int .i64 s']∧(m=a∨m=b∨m=c):=by
 obtain ⟨x1,y1,s1,e1,o1⟩:=Uw (s:=s) ha hb;obtain ⟨x2,y2,s2,e2,o2⟩:=Uw (d:=d) (a:=y1) (b:=c) (s:=s1) (by omega) hc;obtain ⟨x3,y3,s3,e3,o3⟩:=Uw (d:=d) (a:=x1) (b:=x2) (s:=s2) (by omega) (by omega);refine ⟨y3,s3,apV ?_,by omega⟩;unfold adN;rw[e1];simp only[Option.bind_some,V.dF,V.uj,V.toInt_int,V.dP,pG,lq];rw[e2];simp only[Option.bind_some,V.dF,V.uj,V.toInt_int,V.dP,pG,lq];rw[e3];rfl
theorem Uy {d:Array Int} {a:Nat} {s:Int} (h1:1≤a) (ha:a+1<d.size) (hs:d.size<1152921504606846976): ∃(m:Nat) (s':Int),CC AB [.list ae (eA d),.int .i64 (a:Int),.int .i64 s]=some [.int .i64 (m:Int),.int .i64 s']∧a≤m+1∧m≤a+1:=by
 obtain ⟨m,s',e,o⟩:=Ux (d:=d) (a:=a-1) (b:=a) (c:=a+1) (s:=s) (by omega) (by omega) (by omega);refine ⟨m,s',apW ?_,by omega,by omega⟩;unfold adP;simp (disch:=omega) only[mP,eN,wrap64];rw[e];rfl
theorem Uz (n:Nat):Int.tdiv (n:Int) 4=((n/4:Nat):Int):=by
 have:=divC n 4;exact this
theorem mulC (k n:Nat):((k:Nat):Int)*(n:Int)=((k*n:Nat):Int):=(Int.natCast_mul k n).symm
theorem aqj {d:Array Int} {a b:Nat} (ib:a+12<b) (hb:b≤d.size) (hs:d.size<1152921504606846976): ∃(p:Nat) (h:Int),CC Eb [.list ae (eA d),.int .i64 (a:Int),.int .i64 (b:Int)]=some [.int .i64 (p:Int),.int .i64 h]∧a≤p∧p<b:=by
 have fin: ∀(p:Nat) (s:Int),∃h:Int,(bif (s:Int)==0 then some [V.int .i64 (p:Int),V.int .i64 1] else bif (s:Int)==12 then some [V.int .i64 (p:Int),V.int .i64 2] else some [V.int .i64 (p:Int),V.int .i64 0])=some [V.int .i64 (p:Int),V.int .i64 h]:=by
  intro p s;rw[vT];split
  ·exact ⟨1,rfl⟩
  ·rw[vT];split
   ·exact ⟨2,rfl⟩
   ·exact ⟨0,rfl⟩
 have e1:wrap .i64 ((b:Int)-(a:Int))=((b-a:Nat):Int):=by rw[pn (by omega),gB]
 have e2:wrap .i64 (Int.tdiv ((b-a:Nat):Int) 4)=(((b-a)/4:Nat):Int):=by rw[Uz,gB]
 have e3: ∀k:Nat,k≤3→wrap .i64 ((a:Int)+wrap .i64 ((k:Int)*(((b-a)/4:Nat):Int)))=((a+k*((b-a)/4):Nat):Int):=by
  intro k hk;have xG:k*((b-a)/4)≤3*((b-a)/4):=dZ _ hk;simp (disch:=omega) only[mulC,wrap64,iv]
 have UA:=e3 1 (by omega);have wH:=e3 2 (by omega);have UB:=e3 3 (by omega);rw[show ((1:Nat):Int)=1 from rfl] at UA;rw[show ((2:Nat):Int)=2 from rfl] at wH;rw[show ((3:Nat):Int)=3 from rfl] at UB;by_cases h50:b-a≥50
 ·obtain ⟨m1,s1,q1,r1⟩:=Uy (d:=d) (a:=a+1*((b-a)/4)) (s:=0) (by omega) (by omega) hs;obtain ⟨m2,s2,q2,r2⟩:=Uy (d:=d) (a:=a+2*((b-a)/4)) (s:=s1) (by omega) (by omega) hs;obtain ⟨m3,s3,q3,r3⟩:=Uy (d:=d) (a:=a+3*((b-a)/4)) (s:=s2) (by omega) (by omega) hs;obtain ⟨m,s,q,r⟩:=Ux (d:=d) (a:=m1) (b:=m2) (c:=m3) (s:=s3) (by omega) (by omega) (by omega);obtain ⟨h,hf⟩:=fin m s;refine ⟨m,h,adM ?_,by omega,by omega⟩;unfold Uq GL GK;rw[e1,e2,UA,wH,UB,qj (by omega),cond_true,qj (by omega),cond_true,q1];simp only[Option.bind_some,V.dF,V.uj,V.toInt_int,V.dP,pG,lq];rw[q2];simp only[Option.bind_some,V.dF,V.uj,V.toInt_int,V.dP,pG,lq];rw[q3];simp only[Option.bind_some,V.dF,V.uj,V.toInt_int,V.dP,pG,lq,un];rw[q];exact hf
 ·obtain ⟨m,s,q,r⟩:=Ux (d:=d) (a:=a+1*((b-a)/4)) (b:=a+2*((b-a)/4)) (c:=a+3*((b-a)/4)) (s:=0) (by omega) (by omega) (by omega);obtain ⟨h,hf⟩:=fin m s;refine ⟨m,h,adM ?_,by omega,by omega⟩;unfold Uq GL GK;rw[e1,e2,UA,wH,UB,qj (by omega),cond_true,wB (by omega),cond_false];simp only[un];rw[q];exact hf
theorem aqk {a b M:Nat} (Ug:1≤M) (hM:M≤2*(b-a)) (h8:8≤b-a) (hB:b<1152921504606846976): ∀(n i:Nat) (d:Array Int) (r:Int),a+2*((b-a)/4)+2-i=n→a≤i→b≤d.size→d.size<1152921504606846976→
  ∃x y z R,Loop (MJ CC a (b-a:Nat) M) ((i:Int),eA d,r)=some (x,y,eA R,z)∧PermIn a b d R:=by
 have e2:wrap .i64 (Int.tdiv ((b-a:Nat):Int) 4)=(((b-a)/4:Nat):Int):=by rw[Uz,gB]
 have wH:wrap .i64 ((a:Int)+wrap .i64 (2*(((b-a)/4:Nat):Int)))=((a+2*((b-a)/4):Nat):Int):=by
  have:=mulC 2 ((b-a)/4);rw[show ((2:Nat):Int)=2 from rfl] at this;rw[this];simp (disch:=omega) only[wrap64,iv]
 intro n
 induction n with
 | zero=>
  intro i d r hn hi hb hs;refine ⟨(i:Int),false,r,d,cQ ?_,permIn_refl _ _ _⟩;simp only[MJ,GN,un];rw[e2,wH,eN,gB,wB (by omega),cond_false]
 | succ n ih=>
  intro i d r hn hi hb hs;obtain ⟨R1,q1,q2⟩:=aqi r;obtain ⟨o,ho,pT⟩: ∃o:Nat,(o=if R1&&&(M-1)≥b-a then (R1&&&(M-1))-(b-a) else R1&&&(M-1))∧o<b-a:=by
   refine ⟨_,rfl,?_⟩;have:R1&&&(M-1)≤M-1:=Nat.and_le_right;split<;>omega
  have hand:R1&&&(M-1)≤M-1:=Nat.and_le_right;have hP:=swp_permIn d a b i (a+o) hi (by omega) (by omega) (by omega) hb;obtain ⟨x,y,z,R,e,hR⟩:=ih (i+1) (swp d i (a+o)) (R1:Int) (by omega) (by omega) (by rw[size_swp];exact hb) (by rw[size_swp];exact hs);refine ⟨x,y,z,R,(eD ?_).trans e,permIn_trans _ _ _ a b hP hR⟩;simp only[MJ,GN,un];rw[e2,wH,eN,wrap64 (x:=((a+2*((b-a)/4)+1:Nat):Int)) (by omega) (by omega),qj (by omega),cond_true,q1];simp only[Option.bind_some,V.dF,V.uj,V.toInt_int,V.dP,pG,lq];have e5:wrap .u64 ((M:Int)-1)=((M-1:Nat):Int):=by rw[mP Ug,EM (by omega)]
  rw[e5,u64_and q2 (by omega),wrap64 (x:=((R1&&&(M-1):Nat):Int)) (by omega) (by omega)];have fin: ∀k:Int,k=(o:Int)→(bif (decide (0≤(wrap .i64 ((a:Int)+k))))&&(decide ((wrap .i64 ((a:Int)+k))<((eA d).length:Int))) then
   ((eA d)[(wrap .i64 ((a:Int)+k):Int).toNat]?).bind fun x4=>
   bif (decide (0≤(i:Int)))&&(decide ((i:Int)<((eA d).length:Int))) then
    ((eA d)[((i:Int):Int).toNat]?).bind fun x5=>
    bif (decide (0≤(i:Int)))&&(decide ((i:Int)<((eA d).length:Int))) then
    ((eA d)[((i:Int):Int).toNat]?).bind fun x6=>
    bif (decide (0≤(wrap .i64 ((a:Int)+k))))&&(decide ((wrap .i64 ((a:Int)+k))<(((eA d).set (((i:Int):Int).toNat) (V.int .i64 x4.toInt)).length:Int))) then
     (((eA d).set (((i:Int):Int).toNat) (V.int .i64 x4.toInt))[(wrap .i64 ((a:Int)+k):Int).toNat]?).bind fun x7=>
     some (.inl (wrap .i64 ((i:Int)+1),((eA d).set (((i:Int):Int).toNat) (V.int .i64 x4.toInt)).set ((wrap .i64 ((a:Int)+k):Int).toNat) (V.int .i64 x5.toInt),(R1:Int)))
    else none
    else none
   else none
   else none:Option ((Int×List V×Int) ⊕ (Int×Bool×List V×Int)))=some (.inl (((i+1:Nat):Int),eA (swp d i (a+o)),(R1:Int))):=by
   intro k hk;subst hk;simp (disch:=omega) only[bu,iZ,iY,ak,aj,wrap64,eN,iv,Int.toNat_natCast,Option.bind_some,iJ,iK,gf,iu,j5,jk,je,V.dF,V.toInt_int,V.dP,cond_true,cond_false];rfl
  unfold MI;by_cases h:R1&&&(M-1)≥b-a
  ·rw[ak h] at ho;rw[qj (by omega),cond_true];exact fin _ (by rw[pn (by omega),gB];omega)
  ·rw[aj h] at ho;rw[wB (by omega),cond_false];exact fin _ (by omega)
theorem aql {a b:Nat} {d:Array Int} (ib:a+12<b) (hb:b≤d.size) (hs:d.size<1152921504606846976): ∃R,CC Kt [.int .i64 (a:Int),.int .i64 (b:Int),.list ae (eA d)]=some [.list ae (eA R)]∧PermIn a b d R:=by
 obtain ⟨M,q1,q2,q3⟩:=aqh (x:=b-a) (by omega) (by omega);have e1:wrap .i64 ((b:Int)-(a:Int))=((b-a:Nat):Int):=by rw[pn (by omega),gB]
 have e2:wrap .i64 (Int.tdiv ((b-a:Nat):Int) 4)=(((b-a)/4:Nat):Int):=by rw[Uz,gB]
 have wH:wrap .i64 ((a:Int)+wrap .i64 (2*(((b-a)/4:Nat):Int)))=((a+2*((b-a)/4):Nat):Int):=by
  have:=mulC 2 ((b-a)/4);rw[show ((2:Nat):Int)=2 from rfl] at this;rw[this];simp (disch:=omega) only[wrap64,iv]
 obtain ⟨x,y,z,R,e,hR⟩:=aqk (a:=a) (b:=b) (M:=M) q2 q3 (by omega) (by omega) _ (a+2*((b-a)/4)-1) d (wrap .u64 ((b-a:Nat):Int)) rfl (by omega) hb hs;refine ⟨R,apZ ?_,hR⟩;unfold adR;rw[e1,bu,bt,q1];simp only[Option.bind_some,V.dF,V.toInt_int,V.dP];rw[e2,wH,mP (by omega),wrap64 (x:=((a+2*((b-a)/4)-1:Nat):Int)) (by omega) (by omega),e];rfl
noncomputable def wI (C:af) (a b':Int) (fR gp:Bool) (dn gq:Int) (rC:List V) {β:Type} (kn:(Int×Int×Int×Bool×Bool×(List V))→Option β):Option β:=
      bif decide ((a:Int)>0) then
       aq rC (wrap .i64 (a-1)) fun uR=>
       aq rC gq fun Bm=>
        (C jy [V.int .i64 uR.toInt,V.int .i64 Bm.toInt]).bind fun rl=>
        bif !((V.nth rl 0).toBool) then
        (C xS [.int .i64 a,.int .i64 b',.int .i64 gq,.list ae rC]).bind fun nJ=>
        kn ((V.nth nJ 0).toInt,b',dn,fR,gp,(V.nth (nJ.drop 1) 0).toList)
        else
        (C qb [.int .i64 a,.int .i64 b',.int .i64 gq,.list ae rC]).bind fun fv=>
        bif decide (((wrap .i64 (((V.nth fv 0).toInt)-a)):Int)<(wrap .i64 (b'-((V.nth fv 0).toInt)))) then
         (C ja [.int .i64 a,.int .i64 ((V.nth fv 0).toInt),.int .i64 dn,.list ae ((V.nth (fv.drop 2) 0).toList)]).bind fun BB=>
         kn (wrap .i64 (((V.nth fv 0).toInt)+1),b',dn,decide (((wrap .i64 (((V.nth fv 0).toInt)-a)):Int)≥(wrap .i64 (Int.tdiv (wrap .i64 (b'-a)) 8))),(V.nth (fv.drop 1) 0).toBool,(V.nth BB 0).toList)
        else
         (C ja [.int .i64 (wrap .i64 (((V.nth fv 0).toInt)+1)),.int .i64 b',.int .i64 dn,.list ae ((V.nth (fv.drop 2) 0).toList)]).bind fun mU=>
         kn (a,(V.nth fv 0).toInt,dn,decide (((wrap .i64 (b'-((V.nth fv 0).toInt))):Int)≥(wrap .i64 (Int.tdiv (wrap .i64 (b'-a)) 8))),(V.nth (fv.drop 1) 0).toBool,(V.nth mU 0).toList)
      else
       (C qb [.int .i64 a,.int .i64 b',.int .i64 gq,.list ae rC]).bind fun jf=>
       bif decide (((wrap .i64 (((V.nth jf 0).toInt)-a)):Int)<(wrap .i64 (b'-((V.nth jf 0).toInt)))) then
       (C ja [.int .i64 a,.int .i64 ((V.nth jf 0).toInt),.int .i64 dn,.list ae ((V.nth (jf.drop 2) 0).toList)]).bind fun wG=>
       kn (wrap .i64 (((V.nth jf 0).toInt)+1),b',dn,decide (((wrap .i64 (((V.nth jf 0).toInt)-a)):Int)≥(wrap .i64 (Int.tdiv (wrap .i64 (b'-a)) 8))),(V.nth (jf.drop 1) 0).toBool,(V.nth wG 0).toList)
       else
       (C ja [.int .i64 (wrap .i64 (((V.nth jf 0).toInt)+1)),.int .i64 b',.int .i64 dn,.list ae ((V.nth (jf.drop 2) 0).toList)]).bind fun mQ=>
       kn (a,(V.nth jf 0).toInt,dn,decide (((wrap .i64 (b'-((V.nth jf 0).toInt))):Int)≥(wrap .i64 (Int.tdiv (wrap .i64 (b'-a)) 8))),(V.nth (jf.drop 1) 0).toBool,(V.nth mQ 0).toList)
theorem MO (C:af) (a b' lk:Int) (fR gp:Bool) (an:List V) {β:Type} (kn:(Int×Int×Int×Bool×Bool×(List V))→Option β) (kr:(List V)→Option β):
  s8 C a b' lk fR gp an kn kr=
 bif decide (((wrap .i64 (b'-a)):Int)≤12) then
  (C D9 [.int .i64 a,.int .i64 b',.list ae an]).bind fun r1=>
  kr ((V.nth r1 0).toList)
 else
  bif (lk:Int)==0 then
  (C Ea [.int .i64 a,.int .i64 b',.list ae an]).bind fun r2=>
  kr ((V.nth r2 0).toList)
  else
  Bz C a b' lk fR gp (wrap .i64 (b'-a)) (!fR) an (un fun (dn:Int) (GQ:List V)=>
   (C Eb [.list ae GQ,.int .i64 a,.int .i64 b']).bind fun r6=>
   BA C a b' dn fR gp (wrap .i64 (b'-a)) ((V.nth r6 0).toInt) ((V.nth (r6.drop 1) 0).toInt) ((((V.nth (r6.drop 1) 0).toInt):Int)==2) GQ (un fun (gq:Int)=>un fun (Uu:Int) (rA:List V)=>
    bif fR then
     bif gp then
     po C a b' dn fR gp (wrap .i64 (b'-a)) gq ((Uu:Int)==1) rA (cM (un fun (acM:Bool) (UC:List V)=>
      kr UC) (fun (rC:List V)=>wI C a b' fR gp dn gq rC kn))
     else
     po C a b' dn fR gp (wrap .i64 (b'-a)) gq false rA (cM (un fun (aqm:Bool) (aqn:List V)=>
      kr aqn) (fun (aqo:List V)=>wI C a b' fR gp dn gq aqo kn))
    else
     po C a b' dn fR gp (wrap .i64 (b'-a)) gq false rA (cM (un fun (auh:Bool) (aqp:List V)=>
      kr aqp) (fun (aqq:List V)=>wI C a b' fR gp dn gq aqq kn)))):=rfl
section
variable {a b:Nat} {lim:Int} {wb wp:Bool}
theorem aqr {d:Array Int} (ib:a+12<b) (hb:b≤d.size) (hs:d.size<1152921504606846976) (len:Int) (t:Bool): ∃(l1:Int) (d1:Array Int),PermIn a b d d1∧∀(β:Type) (kr:(Int×List V)→Option β),Bz CC a b lim wb wp len t (eA d) kr=kr (l1,eA d1):=by
 cases t with
 | true=>
  obtain ⟨R,e,hR⟩:=aql ib hb hs;refine ⟨wrap .i64 (lim-1),R,hR,fun β kr=> ?_⟩;unfold Bz;rw[cond_true,e];rfl
 | false=>exact ⟨lim,d,permIn_refl _ _ _,fun β kr=>rfl⟩
theorem aqs {d:Array Int} (ib:a+12<b) (hb:b≤d.size) (hs:d.size<1152921504606846976) (len h:Int) (t:Bool) {p:Nat} (h1:a≤p) (h2:p<b): ∃(p2:Nat) (h2:Int) (d1:Array Int),a≤p2∧p2<b∧PermIn a b d d1∧∀(β:Type) (kr:(Int×Int×List V)→Option β),BA CC a b lim wb wp len p h t (eA d) kr=kr ((p2:Int),h2,eA d1):=by
 cases t with
 | true=>
  refine ⟨b-1-(p-a),1,reverseRange d a b,by omega,by omega,reverseRange_holds d a b (by omega) hb,fun β kr=> ?_⟩;unfold BA;rw[cond_true,ape (by omega) hb hs];simp (disch:=omega) only[Option.bind_some,V.dF,V.eh,mP,pn,wrap64]
 | false=>exact ⟨p,h,d,h1,h2,permIn_refl _ _ _,fun β kr=>rfl⟩
theorem aqt {d:Array Int} (ib:a+12<b) (hb:b≤d.size) (hs:d.size<1152921504606846976) (hB:Below aC a b d) (len p:Int) (t:Bool): ∃d1:Array Int,PermIn a b d d1∧
  ((∀(β:Type) (kr:((Bool×List V) ⊕ List V)→Option β),po CC a b lim wb wp len p t (eA d) kr=kr (.inr (eA d1)))∨
  (SortedIn aC a b d1∧∀(β:Type) (kr:((Bool×List V) ⊕ List V)→Option β),po CC a b lim wb wp len p t (eA d) kr=kr (.inl (true,eA d1)))):=by
 cases t with
 | true=>
  have hp:=partialInsertionSort_holds (lt:=aC) BC d a b (by omega) hb hB;refine ⟨_,hp.1,?_⟩;cases h:(partialInsertionSort aC d a b).2 with
  | true=>
   refine .inr ⟨hp.2 h,fun β kr=> ?_⟩;unfold po;rw[cond_true,adJ (by omega) hb hs,h];rfl
  | false=>
   refine .inl fun β kr=> ?_;unfold po;rw[cond_true,adJ (by omega) hb hs,h];rfl
 | false=>exact ⟨d,permIn_refl _ _ _,.inl fun β kr=>rfl⟩
end
def MP (a b:Nat) (d:Array Int):Prop:= ∀(lim:Int) (wb wp:Bool),∃R,Loop (adY CC) ((a:Int),(b:Int),lim,wb,wp,eA d)=some (eA R)∧PermIn a b d R∧SortedIn aC a b R
theorem MP.call {a b:Nat} {d:Array Int} (h:MP a b d) (lim:Int): ∃R,CC ja [.int .i64 (a:Int),.int .i64 (b:Int),.int .i64 lim,.list ae (eA d)]=some [.list ae (eA R)]∧PermIn a b d R∧SortedIn aC a b R:=by
 obtain ⟨R,e,h1,h2⟩:=h lim true true;refine ⟨R,aqe ?_,h1,h2⟩;unfold adZ;rw[e];rfl
theorem aqu {a b p:Nat} {d:Array Int} (ib:a+12<b) (hb:b≤d.size) (hs:d.size<1152921504606846976) (hB:Below aC a b d) (h1:a≤p) (h2:p<b)
  (ih: ∀(a2 b2:Nat) (d2:Array Int),b2-a2<b-a→a2≤b2→b2≤d2.size→d2.size<1152921504606846976→Below aC a2 b2 d2→MP a2 b2 d2) (wb wp:Bool) (lim:Int):
  ∃(a2 b2:Nat) (yQ yR:Bool) (d2:Array Int),b2-a2<b-a∧a2≤b2∧b2≤d2.size∧d2.size<1152921504606846976∧Below aC a2 b2 d2∧
   (∀R,PermIn a2 b2 d2 R→SortedIn aC a2 b2 R→PermIn a b d R∧SortedIn aC a b R)∧
   ∀(β:Type) (kn:(Int×Int×Int×Bool×Bool×(List V))→Option β),wI CC a b wb wp lim p (eA d) kn=kn ((a2:Int),(b2:Int),lim,yQ,yR,eA d2):=by
 have part: ∃(a2 b2:Nat) (yQ yR:Bool) (d2:Array Int),b2-a2<b-a∧a2≤b2∧b2≤d2.size∧d2.size<1152921504606846976∧Below aC a2 b2 d2∧
   (∀R,PermIn a2 b2 d2 R→SortedIn aC a2 b2 R→PermIn a b d R∧SortedIn aC a b R)∧
   ∀(β:Type) (kn:(Int×Int×Int×Bool×Bool×(List V))→Option β),
    ((CC qb [.int .i64 (a:Int),.int .i64 (b:Int),.int .i64 (p:Int),.list ae (eA d)]).bind fun fv=>
        bif decide (((wrap .i64 (((V.nth fv 0).toInt)-(a:Int))):Int)<(wrap .i64 ((b:Int)-((V.nth fv 0).toInt)))) then
         (CC ja [.int .i64 (a:Int),.int .i64 ((V.nth fv 0).toInt),.int .i64 lim,.list ae ((V.nth (fv.drop 2) 0).toList)]).bind fun BB=>
         kn (wrap .i64 (((V.nth fv 0).toInt)+1),(b:Int),lim,decide (((wrap .i64 (((V.nth fv 0).toInt)-(a:Int))):Int)≥(wrap .i64 (Int.tdiv (wrap .i64 ((b:Int)-(a:Int))) 8))),(V.nth (fv.drop 1) 0).toBool,(V.nth BB 0).toList)
        else
         (CC ja [.int .i64 (wrap .i64 (((V.nth fv 0).toInt)+1)),.int .i64 (b:Int),.int .i64 lim,.list ae ((V.nth (fv.drop 2) 0).toList)]).bind fun mU=>
         kn ((a:Int),(V.nth fv 0).toInt,lim,decide (((wrap .i64 ((b:Int)-((V.nth fv 0).toInt))):Int)≥(wrap .i64 (Int.tdiv (wrap .i64 ((b:Int)-(a:Int))) 8))),(V.nth (fv.drop 1) 0).toBool,(V.nth mU 0).toList))=kn ((a2:Int),(b2:Int),lim,yQ,yR,eA d2):=by
  obtain ⟨mid,ap,d4,hx⟩: ∃mid ap d4,partition aC d a b p=(mid,ap,d4):=⟨_,_,_,rfl⟩
  obtain ⟨g1,g2,rG,hBa,hBr,aqv,aqw⟩:=round_part BC (partition_holds aC) h1 h2 hb hB hx;have hc:=apI (a:=a) (b:=b) (pivot:=p) (d:=d) h2 (by omega) hb hs;rw[hx] at hc;by_cases hl:mid-a<b-mid
  ·obtain ⟨L,e,l1,l2⟩:=(ih a mid d4 (by omega) g1 (by rw[rG];omega) (by rw[rG];exact hs) hBa).call lim;obtain ⟨UD,yE⟩:=aqv _ l1 l2;refine ⟨mid+1,b,decide (((wrap .i64 ((mid:Int)-(a:Int))):Int)≥(wrap .i64 (Int.tdiv (wrap .i64 ((b:Int)-(a:Int))) 8))),ap,L,by omega,by omega,by rw[l1.1,rG];exact hb,by rw[l1.1,rG];exact hs,UD,yE,fun β kn=> ?_⟩
   ·rw[hc];simp only[Option.bind_some,V.dF,V.uj,V.toInt_int,V.dP,V.dP,V.eh,pG,lq];rw[bu,ak (by rw[pn g1,pn (by omega),wrap64 (by omega) (by omega),wrap64 (by omega) (by omega)];omega),e];simp only[Option.bind_some,V.dF,V.eh];rw[eN,wrap64 (x:=((mid+1:Nat):Int)) (by omega) (by omega)]
  ·obtain ⟨L,e,l1,l2⟩:=(ih (mid+1) b d4 (by omega) (by omega) (by rw[rG];exact hb) (by rw[rG];exact hs) hBr).call lim;obtain ⟨UD,yE⟩:=aqw _ l1 l2;refine ⟨a,mid,decide (((wrap .i64 ((b:Int)-(mid:Int))):Int)≥(wrap .i64 (Int.tdiv (wrap .i64 ((b:Int)-(a:Int))) 8))),ap,L,by omega,by omega,by rw[l1.1,rG];omega,by rw[l1.1,rG];exact hs,UD,yE,fun β kn=> ?_⟩
   ·rw[hc];simp only[Option.bind_some,V.dF,V.uj,V.toInt_int,V.dP,V.dP,V.eh,pG,lq];rw[bu,aj (by rw[pn g1,pn (by omega),wrap64 (by omega) (by omega),wrap64 (by omega) (by omega)];omega),eN,wrap64 (x:=((mid+1:Nat):Int)) (by omega) (by omega),e];simp only[Option.bind_some,V.dF,V.eh]
 by_cases ha:0<a
 ·by_cases hc:cD d[a-1]! d[p]! <0
  ·obtain ⟨a2,b2,yQ,yR,d2,q1,q2,q3,q4,q5,q6,q7⟩:=part;refine ⟨a2,b2,yQ,yR,d2,q1,q2,q3,q4,q5,q6,fun β kn=> ?_⟩;rw[←q7 β kn];unfold wI;rw[bu,bt,mP ha,gB,mR (i:=a-1),mR (i:=p)];simp only[gf,je,Option.bind_some,V.dF,V.toInt_int,V.dP];rw[iY,bu,ak hc]
  ·obtain ⟨mid,d4,hx⟩: ∃mid d4,partitionEqual aC d a b p=(mid,d4):=⟨_,_,rfl⟩
   obtain ⟨g1,N0,rG,hB4,yE⟩:=round_eq BC (partitionEqual_holds aC) ha h1 h2 hb hB (by rw[ad0];exact hc) hx;have he:=apK (a:=a) (b:=b) (pivot:=p) (d:=d) h2 (by omega) hb hs;rw[hx] at he;refine ⟨mid,b,wb,wp,d4,by omega,N0,by rw[rG];exact hb,by rw[rG];exact hs,hB4,yE,fun β kn=> ?_⟩;unfold wI;rw[bu,bt,mP ha,gB,mR (i:=a-1),mR (i:=p)];simp only[gf,je,Option.bind_some,V.dF,V.toInt_int,V.dP];rw[iY,bu,aj hc,he];rfl
 ·obtain ⟨a2,b2,yQ,yR,d2,q1,q2,q3,q4,q5,q6,q7⟩:=part;refine ⟨a2,b2,yQ,yR,d2,q1,q2,q3,q4,q5,q6,fun β kn=> ?_⟩;rw[←q7 β kn];unfold wI;rw[bu,bN]
theorem aqx: ∀(n a b:Nat) (d:Array Int),b-a≤n→a≤b→b≤d.size→d.size<1152921504606846976→Below aC a b d→MP a b d:=by
 intro n
 induction n with
 | zero=>
  intro a b d hn ib hb hs hB lim wb wp;have hi:=insertionSort_holds (lt:=aC) BC d a b ib hb;refine ⟨_,cQ ?_,hi⟩;show s8 CC a b lim wb wp (eA d) (fun y=>some (Sum.inl y)) (fun r=>some (Sum.inr r))=_;rw[MO,bu,ak (by rw[pn ib,wrap64 (by omega) (by omega)];omega),adu hb hs (by omega)];rfl
 | succ n ih=>
  intro a b d hn ib hb hs hB lim wb wp;by_cases h12:b-a≤12
  ·have hi:=insertionSort_holds (lt:=aC) BC d a b ib hb;refine ⟨_,cQ ?_,hi⟩;show s8 CC a b lim wb wp (eA d) (fun y=>some (Sum.inl y)) (fun r=>some (Sum.inr r))=_;rw[MO,bu,ak (by rw[pn ib,wrap64 (by omega) (by omega)];omega),adu hb hs (by omega)];rfl
  ·have GS:a+12<b:=by omega
   have xB: ¬(((wrap .i64 ((b:Int)-(a:Int))):Int)≤12):=by rw[pn ib,gB];omega
   by_cases h0:lim=0
   ·have hi:=heapSort_holds (lt:=aC) BC d a b ib hb;refine ⟨_,cQ ?_,hi⟩;show s8 CC a b lim wb wp (eA d) (fun y=>some (Sum.inl y)) (fun r=>some (Sum.inr r))=_;rw[MO,bu,aj xB,vT,ak h0,apc (by omega) hb hs];rfl
   ·obtain ⟨l1,d1,s1,k1⟩:=aqr (lim:=lim) (wb:=wb) (wp:=wp) GS hb hs (wrap .i64 ((b:Int)-(a:Int))) (!wb);have b1:b≤d1.size:=by rw[s1.1];exact hb
    have z1:d1.size<1152921504606846976:=by rw[s1.1];exact hs
    obtain ⟨p,h,c1,p1,p2⟩:=aqj GS b1 z1;obtain ⟨q,h2,d2,q1,q2,s2,k2⟩:=aqs (lim:=l1) (wb:=wb) (wp:=wp) GS b1 z1 (wrap .i64 ((b:Int)-(a:Int))) h (h==2) p1 p2;have b2:b≤d2.size:=by rw[s2.1];exact b1
    have z2:d2.size<1152921504606846976:=by rw[s2.1];exact z1
    have B2:Below aC a b d2:=(hB.perm hb s1).perm b1 s2;obtain ⟨t,ht⟩: ∃t:Bool,t=(bif wb then (bif wp then (h2==1) else false) else false):=⟨_,rfl⟩
    obtain ⟨d3,s3,k3⟩:=aqt (lim:=l1) (wb:=wb) (wp:=wp) GS b2 z2 B2 (wrap .i64 ((b:Int)-(a:Int))) (q:Int) t;have b3:b≤d3.size:=by rw[s3.1];exact b2
    have z3:d3.size<1152921504606846976:=by rw[s3.1];exact z2
    have B3:Below aC a b d3:=B2.perm b2 s3;have P3:PermIn a b d d3:=permIn_trans _ _ _ a b (permIn_trans _ _ _ a b s1 s2) s3;have step: ∀(β:Type) (kn:(Int×Int×Int×Bool×Bool×(List V))→Option β) (kr:(List V)→Option β),s8 CC a b lim wb wp (eA d) kn kr=
      po CC a b l1 wb wp (wrap .i64 ((b:Int)-(a:Int))) (q:Int) t (eA d2) (cM (un fun (acM:Bool) (UC:List V)=>kr UC) (fun (rC:List V)=>wI CC a b wb wp l1 q rC kn)):=by
     intro β kn kr;rw[MO,bu,aj xB,vT,aj h0,k1];simp only[un];rw[c1];simp only[Option.bind_some,V.dF,V.uj,V.toInt_int,V.dP,pG,lq];rw[k2];simp only[un];rw[ht];cases wb
     ·rfl
     ·cases wp
      ·rfl
      ·rfl
    rcases k3 with k3|⟨k3s,k3⟩
    ·obtain ⟨a4,b4,wb4,wp4,d4,r1,r2,r3,r4,r5,r6,r7⟩:=aqu GS b3 z3 B3 q1 q2 (fun a2 b2 d2 ba h1 h2 h3 h4=>ih a2 b2 d2 (by omega) h1 h2 h3 h4) wb wp l1;obtain ⟨R,e,e1,e2⟩:=ih a4 b4 d4 (by omega) r2 r3 r4 r5 l1 wb4 wp4;obtain ⟨f1,f2⟩:=r6 R e1 e2;refine ⟨R,(eD ?_).trans e,permIn_trans _ _ _ a b P3 f1,f2⟩;show s8 CC a b lim wb wp (eA d) (fun y=>some (Sum.inl y)) (fun r=>some (Sum.inr r))=_;rw[step,k3];exact r7 _ (fun y=>some (Sum.inl y))
    ·refine ⟨d3,cQ ?_,P3,k3s⟩;show s8 CC a b lim wb wp (eA d) (fun y=>some (Sum.inl y)) (fun r=>some (Sum.inr r))=_;rw[step,k3];rfl
theorem aqy (l:List Int) (hs:l.length<1152921504606846976): ∃R:List Int,CC D1 [.list ae (l.map rD)]=some [.list ae (R.map rD)]∧R.Perm l∧R.Pairwise (fun x y=> ¬cD y x<0):=by
 obtain ⟨L,e1,_⟩:=ad2 (x:=l.length) (by omega);obtain ⟨R,e2,h1,h2⟩:=(aqx _ 0 l.toArray.size l.toArray (az _) (kK _) (az _) (by simpa using hs) (.inl rfl)).call (L:Int);have aU:R.size=l.length:=by rw[h1.1];simp
 refine ⟨R.toList,ap0 ?_,?_,?_⟩
 ·unfold adS;rw[cU,EM (A:=l.length) (by omega),e1];simp only[Option.bind_some,V.dF,V.toInt_int,V.dP];have e3:eA l.toArray=l.map rD:=by simp[s7]
  rw[e3,show ((l.toArray.size:Nat):Int)=(l.length:Int) by simp,show ((0:Nat):Int)=0 from rfl] at e2;rw[e2];rfl
 ·have h3:=h1.2.2;rw[show l.toArray.size=R.size from h1.1.symm,Array.extract_size,h1.1,Array.extract_size] at h3;exact h3
 ·rw[HR];intro i j hi hj O0;have h3:=h2 i j (kK _) O0 (by simpa[←aU] using hj);rw[ad0] at h3;have ca:i<R.size:=by simpa using hi
  have dN:j<R.size:=by simpa using hj
  rw[getElem!_pos R i ca,getElem!_pos R j dN] at h3;simpa using h3
end Go.AM.SO
set_option maxRecDepth 100000
namespace Go.AM
open Go.IntKind (wrap)
open Go.Proofs
noncomputable def GU (C:af) (t14:LV) (t15 t16:Int) (cs aP aH aI:LV) {β:Type} (kn:(Int×LV×LV×LV×LV)→Option β) (kr:(Int×Bool×LV×LV×LV×LV)→Option β):Option β:=
 bif decide (t16<t15) then
  (idx t14 t16).bind fun x3=>
  (C D0 [V.int .i64 x3.toInt,.list ah cs,.list ae aP,.list ax aH,.list ae aI]).bind fun r4=>
  kn (wrap .i64 (t16+1),(V.nth r4 0).toList,(V.nth (r4.drop 1) 0).toList,(V.nth ((r4.drop 1).drop 1) 0).toList,(V.nth (((r4.drop 1).drop 1).drop 1) 0).toList)
 else
  kr (t16,decide (t16<t15),cs,aP,aH,aI)
noncomputable def MQ (C:af) (t14:LV) (t15:Int):=un fun t16=>un fun cs=>un fun aP=>un fun aH aI=>GU C t14 t15 t16 cs aP aH aI (fun y=>some (Sum.inl y)) (fun r=>some (Sum.inr r))
noncomputable def aqz (C:af):cx:=br 81 QW [EQ,EQ,H1,H1,H1,H1,H1] [[1,2,0,0,0,0,0,0]] (@GU C) bA
theorem aqA (C:af):aZ C (aqz C) 10 (Lp [1,1,1,0,1,0,0] 10):=bq QW [EQ,EQ,H1,H1,H1,H1,H1] [[1,2,0,0,0,0,0,0]] (@GU C) (aR au)
noncomputable def ad3 (C:af) (t ei:LV):Option LV:=
 (C J9 [.list ah t,.list ae ei]).bind fun r1=>
 bif !((V.nth r1 0).toBool) then
  some [.list ae ([]:LV)]
 else
  (C Ka [.list ah t]).bind fun r2=>
  (Loop (MQ C ei (ei.length:Int)) (0,(V.nth r2 0).toList,(V.nth (r2.drop 1) 0).toList,(V.nth ((r2.drop 1).drop 1) 0).toList,(V.nth (((r2.drop 1).drop 1).drop 1) 0).toList)).bind (un fun oy=>un fun (oz:Bool)=>un fun (aui:LV)=>un fun (wx:LV)=>un fun (A8:LV) (ph:LV)=>
   (C D1 [.list ae ph]).bind fun dt=>
   some [.list ae ((V.nth dt 0).toList)])
theorem aqB {t ei:LV} {r:Option LV} (h:ad3 CC t ei=r):CC JZ [.list ah t,.list ae ei]=r:=bz (aY (aqA CC) au) h
theorem ad4 (l:List Nat):(l.map fun (x:Nat)=>(x:Int)).map SO.rD=nS l:=by
 rw[pH];rfl
theorem aqC {l:List Nat} (hl:l.length≤1000000) (hn:l.Nodup): ∃Z:List Nat,CC D1 [.list ae (nS l)]=some [.list ae (nS Z)]∧Z.Perm l∧Z.Pairwise (· < ·):=by
 obtain ⟨R,e,hp,hs⟩:=SO.aqy (l.map fun (x:Nat)=>(x:Int)) (by rw[cU];omega);have hR: ∀x∈R,∃n∈l,(n:Int)=x:=fun x hx=>eu.1 (hp.mem_iff.1 hx);have hRe:(R.map Int.toNat).map (fun (x:Nat)=>(x:Int))=R:=by
  rw[pH]
  conv=>rhs;rw[←List.map_id R]
  refine mo fun x hx=> ?_;obtain ⟨n,_,rfl⟩:=hR x hx;rfl
 have ez:(R.map Int.toNat).Perm l:=by
  have:=hp.map Int.toNat
  rw[pH] at this;simpa[Function.comp_def] using this
 refine ⟨R.map Int.toNat,?_,ez,?_⟩
 ·rw[←ad4,←ad4,hRe];exact e
 ·have la:=ez.nodup_iff.2 hn;have h2:(R.map Int.toNat).Pairwise (fun x y=>x≤y):=by
   rw[List.pairwise_map];refine hs.imp_of_mem fun {x y} hx hy h=> ?_;unfold SO.cD at h;omega
  refine (h2.and la).imp fun ⟨p,q⟩=>by omega
structure GV (K:Nat) (mul:Nat→Nat→Nat) (G Z:List Nat):Prop where
 GW:Z.Pairwise (· < ·)
 lt: ∀x∈Z,x<K
 sub: ∀g∈G,g∈Z
 pr: ∀x∈Z,kq mul G x
 cl: ∀x∈Z,∀y∈Z,mul x y∈Z
section
variable {K:Nat} {mul:Nat→Nat→Nat} (h:Tb K mul) (ha: ∀i j k,i<K→j<K→k<K→mul (mul i j) k=mul i (mul j k))
include ha
theorem aqD {G M:List Nat} (hI:Gi K mul G M): ∀x∈M,∀y,kq mul G y→mul x y∈M:=fun x hx y hy=>by
 induction hy with
 | one hg=>exact hI.cl x hx _ hg
 | more hy hg ih=>
  rename_i y g;have hyM: ∀z,kq mul G z→z∈M:=fun z hz=>by
   induction hz with
   | one hg=>exact hI.sub _ hg
   | more _ hg ih=>exact hI.cl _ ih _ hg
  rw[←ha _ _ _ (hI.gd.lt _ hx) (hI.gd.lt _ (hyM _ hy)) (hI.gd.lt _ (hI.sub _ hg))];exact hI.cl _ ih _ hg
include h
theorem aqE {G:List Nat} (hG: ∀g∈G,g<K) (hl:G.length≤1000000): ∃Z,CC JZ [.list ah (tG K mul),.list ae (nS G)]=some [.list ae (nS Z)]∧GV K mul G Z:=by
 have h4:=h.k4;have Dn:CC Ka [.list ah (tG K mul)]=some (wA K mul [] []):=by
  refine aoG ?_;unfold adg;rw[nK];refine bT (ga (by omega) (by omega)) ?_;rw[Int.toNat_natCast,wA,dS];simp only[List.not_mem_nil,decide_false];rw[show tab K (fun _=>V.bool false)=List.replicate K (.bool false) by simp[tab,List.map_const']];rfl
 have key:=sJ (step:=MQ CC (nS G) (G.length:Int)) (fun i y=> ∃G' M,y=((i:Int),tG K mul,nS G',dS K M,nS M)∧Gi K mul G' M∧(∀x∈G',x∈G)∧∀j,j<i→G.getD j 0∈M) (fun r=> ∃G' M,r=((G.length:Int),false,tG K mul,nS G',dS K M,nS M)∧Gi K mul G' M∧(∀x∈G',x∈G)∧∀j,j<G.length→G.getD j 0∈M) G.length 0 (0,tG K mul,nS [],dS K [],nS []) (fun i _ hi y hy=> ?_) (fun y hy=> ?_) ⟨[],[],rfl,⟨⟨List.nodup_nil,fun _ h=>(by cases h)⟩,fun _ h=>(by cases h),fun _ h=>(by cases h),fun _ h=>(by cases h),az _⟩,fun _ h=>(by cases h),fun j hj=>(by omega)⟩
 ·obtain ⟨r,e,G',M,rfl,hI,hs,hj⟩:=key;have hM:=hI.gd;obtain ⟨Z,e2,hp,aqF⟩:=aqC (l:=M) (by have:=hM.le;omega) hM.nd;refine ⟨Z,aqB ?_,aqF,fun x hx=>hM.lt x (hp.mem_iff.1 hx),fun g hg=> ?_,fun x hx=>(hI.pr x (hp.mem_iff.1 hx)).mono hs,fun x hx y hy=> ?_⟩
  ·unfold ad3;refine bs (aoF h ha hl hG) (bF rfl (bs Dn ?_));rw[cI];exact bs e (bs e2 rfl)
  ·obtain ⟨j,dN,rfl⟩:=qx hg;have:=hj j dN;rw[vf,bR dN,Option.getD_some] at this;exact hp.mem_iff.2 this
  ·exact hp.mem_iff.2 (aqD ha hI x (hp.mem_iff.1 hx) y (hI.pr y (hp.mem_iff.1 hy)))
 ·obtain ⟨G',M,rfl,hI,hs,hj⟩:=hy;have ca:i<G.length:=by omega
  have MR:G.getD i 0=G[i]:=by rw[vf,bR ca,Option.getD_some]
  obtain ⟨G2,M2,e,PE,hm,Jg,mF⟩:=aoP h hI (g:=G[i]) (hG _ (cJ ca));simp only[MQ,GU,un];refine ⟨_,bT (cd ca) (bs (gb ca) (bs e rfl)),G2,M2,?_,PE,fun x hx=>(mF x hx).elim (hs x) fun e=>e▸cJ ca,fun j dN=> ?_⟩
  ·rw[cm (by omega)];rfl
  ·by_cases c:j=i
   ·rw[c,MR];exact Jg
   ·exact hm _ (hj j (by omega))
 ·obtain ⟨G',M,rfl,hI,hs,hj⟩:=hy;rw[eQ] at*
  simp only[MQ,GU,un];refine ⟨_,bF (aV (az _)) rfl,G',M,?_,hI,hs,hj⟩;rw[aV (az _)]
end
noncomputable def GX (C:af) (t dv:LV) (t34 t35:Int) (places:LV) {β:Type} (kn:(Int×LV)→Option β) (kr:(Int×Bool×LV)→Option β):Option β:=
 bif decide (t35<t34) then
  aq places t35 fun x3=>
  kn (wrap .i64 (t35+1),aD places t35 (V.int .i64 (-1)))
 else
  kr (t35,decide (t35<t34),places)
noncomputable def UE (C:af) (t dv:LV) (t34:Int):=un fun t35 places=>GX C t dv t34 t35 places (fun y=>some (Sum.inl y)) (fun r=>some (Sum.inr r))
noncomputable def GY (C:af) (t dv t42:LV) (t43 t44:Int) (places:LV) {β:Type} (kn:(Int×LV)→Option β) (kr:((Int×LV) ⊕ (Int×Bool×LV))→Option β):Option β:=
 bif decide (t44<t43) then
  (idx t42 t44).bind fun x7=>
  bif decide (t44>0) then
  (idx dv (wrap .i64 (t44-1))).bind fun x8=>
  bif decide ((x8.toInt:Int)≥x7.toInt) then
   kr (.inl (1,([]:LV)))
  else
   bif (decide (0≤x7.toInt))&&(decide (x7.toInt<(places.length:Int))) then
   (places[(x7.toInt:Int).toNat]?).bind fun x9=>
   kn (wrap .i64 (t44+1),aD places (x7.toInt) (V.int .i64 t44))
   else none
  else
  bif (decide (0≤x7.toInt))&&(decide (x7.toInt<(places.length:Int))) then
   (places[(x7.toInt:Int).toNat]?).bind fun lX=>
   kn (wrap .i64 (t44+1),aD places (x7.toInt) (V.int .i64 t44))
  else none
 else
  kr (.inr (t44,decide (t44<t43),places))
noncomputable def MS (C:af) (t dv t42:LV) (t43:Int):=un fun t44 places=>GY C t dv t42 t43 t44 places (fun y=>some (Sum.inl y)) (fun r=>some (Sum.inr r))
noncomputable def GZ (C:af) (t dv:LV) (i x:Int) (t68:LV) (t69 t70:Int) (t81:LV) (t82:Int) (places:LV) (t83:Int) (ss:LV) {β:Type} (kn:(Int×LV)→Option β) (kr:((Int×LV) ⊕ (Int×Bool×LV))→Option β):Option β:=
 bif decide (t83<t82) then
  (idx t81 t83).bind fun sU=>
  aq ss i fun oJ=>
  (idx t x).bind fun sW=>
  (idx sW.toList sU.toInt).bind fun sX=>
  bif (decide (0≤sX.toInt))&&(decide (sX.toInt<(places.length:Int))) then
  (places[(sX.toInt:Int).toNat]?).bind fun oI=>
  (eS Tryz.prog ah ss [(i.toNat,0)]).bind fun pj=>
  bif (decide (0≤t83))&&(decide (t83<(pj.toList.length:Int))) then
   (eS Tryz.prog ah ss [(i.toNat,0)]).bind fun lY=>
   (lY.toList[t83.toNat]?).bind fun yN=>
   aq (setRow Tryz.prog (aD lY.toList t83 (V.int .i64 oI.toInt)) ah ss [(i.toNat,0)]) i fun A6=>
   (eS Tryz.prog ah (setRow Tryz.prog (aD lY.toList t83 (V.int .i64 oI.toInt)) ah ss [(i.toNat,0)]) [(i.toNat,0)]).bind fun LP=>
   bif (decide (0≤t83))&&(decide (t83<(LP.toList.length:Int))) then
   (eS Tryz.prog ah (setRow Tryz.prog (aD lY.toList t83 (V.int .i64 oI.toInt)) ah ss [(i.toNat,0)]) [(i.toNat,0)]).bind fun yK=>
   (yK.toList[t83.toNat]?).bind fun yL=>
   bif decide ((yL.toInt:Int)<0) then
    kr (.inl (9,([]:LV)))
   else
    kn (wrap .i64 (t83+1),setRow Tryz.prog (aD lY.toList t83 (V.int .i64 oI.toInt)) ah ss [(i.toNat,0)])
   else none
  else none
  else none
 else
  kr (.inr (t83,decide (t83<t82),ss))
noncomputable def MT (C:af) (t dv:LV) (i x:Int) (t68:LV) (t69 t70:Int) (t81:LV) (t82:Int) (places:LV):=un fun t83 ss=>GZ C t dv i x t68 t69 t70 t81 t82 places t83 ss (fun y=>some (Sum.inl y)) (fun r=>some (Sum.inr r))
noncomputable def G0 (C:af) (t dv t68:LV) (t69:Int) (places:LV) (t70:Int) (ss:LV) {β:Type} (kn:(Int×LV)→Option β) (kr:((Int×LV) ⊕ (Int×Bool×LV))→Option β):Option β:=
 bif decide (t70<t69) then
  (idx t68 t70).bind fun qk=>
  bif (decide (0≤(dv.length:Int)))&&((decide ((dv.length:Int)≤(dv.length:Int)))&&(Nat.ble (((dv.length:Int).toNat)*8) bm)) then
  aq ss t70 fun rv=>
  (Loop (MT C t dv t70 qk.toInt t68 t69 t70 dv (dv.length:Int) places) (0,aD ss t70 (.list ae (List.replicate ((dv.length:Int).toNat) (V.int .i64 0))))).bind (cM (un fun (ad5:Int) (aqG:LV)=>
   kr (.inl (ad5,aqG))) (un fun apf=>un fun (MF:Bool) (aqH:LV)=>
   kn (wrap .i64 (t70+1),aqH)))
  else none
 else
  kr (.inr (t70,decide (t70<t69),ss))
noncomputable def UF (C:af) (t dv t68:LV) (t69:Int) (places:LV):=un fun t70 ss=>G0 C t dv t68 t69 places t70 ss (fun y=>some (Sum.inl y)) (fun r=>some (Sum.inr r))
noncomputable def MU (C:af):cx:=br 129 QX [EQ,EQ,EQ,H1,H1] [[1,2,3,0,0,0]] (@GX C) (br 209 QY [EQ,EQ,EQ,EQ,H1,H1] [[0,0],[1,2,3,4,0,0,0]] (@GY C) (br 401 QZ [EQ,EQ,EQ,EQ,EQ,EQ,EQ,EQ,EQ,H1,EQ,H1] [[0,0],[1,2,3,4,5,6,7,8,9,0,0,11,0]] (@GZ C) (br 337 Q0 [EQ,EQ,EQ,EQ,H1,EQ,H1] [[0,0],[1,2,3,4,0,0,6,0]] (@G0 C) bA)))
theorem aqI (C:af):aZ C (MU C) 11 (Lp [1,1,1,1,0,1,0,0] 11):=bq QX [EQ,EQ,EQ,H1,H1] [[1,2,3,0,0,0]] (@GX C) (aR au)
theorem aqJ (C:af):aZ C (MU C) 11 (Lp [1,1,1,1,1,0,1,0,0] 11):=bq QY [EQ,EQ,EQ,EQ,H1,H1] [[0,0],[1,2,3,4,0,0,0]] (@GY C) (aR au)
theorem aqK (C:af):aZ C (MU C) 11 (Lp [1,1,1,1,1,1,1,0,1,0,0,1,1,0,0,1,1,1,0,0] 11):=bq QZ [EQ,EQ,EQ,EQ,EQ,EQ,EQ,EQ,EQ,H1,EQ,H1] [[0,0],[1,2,3,4,5,6,7,8,9,0,0,11,0]] (@GZ C) (aR au)
theorem aqL (C:af):aZ C (MU C) 11 (Lp [1,1,1,1,1,1,1,0,1,0,0] 11):=bq Q0 [EQ,EQ,EQ,EQ,H1,EQ,H1] [[0,0],[1,2,3,4,0,0,6,0]] (@G0 C) (aR (aY (aqK C) au))
noncomputable def ad6 (C:af) (t dv:LV):Option LV:=
 (C uv [.list ah t]).bind fun r1=>
 bif (((V.nth r1 0).toInt):Int) != 0 then
  some [.list ah ([]:LV),V.int .i64 ((V.nth r1 0).toInt)]
 else
  bif (dv.length:Int)==0 then
  some [.list ah ([]:LV),V.int .i64 1]
  else
  (C D2 [.list ah t,.list ae dv]).bind fun r2=>
  bif !((V.nth r2 0).toBool) then
   some [.list ah ([]:LV),V.int .i64 1]
  else
   bif (decide (0≤(t.length:Int)))&&((decide ((t.length:Int)≤(t.length:Int)))&&(Nat.ble (((t.length:Int).toNat)*8) bm)) then
   (Loop (UE C t dv ((List.replicate ((t.length:Int).toNat) (V.int .i64 0)).length:Int)) (0,List.replicate ((t.length:Int).toNat) (V.int .i64 0))).bind (un fun gP=>un fun (oy:Bool) (aqM:LV)=>
    (Loop (MS C t dv dv (dv.length:Int)) (0,aqM)).bind (cM (un fun (wz:Int) (aqN:LV)=>
     some [.list ah aqN,V.int .i64 wz]) (un fun yC=>un fun (sS:Bool) (aqO:LV)=>
     bif (decide (0≤(dv.length:Int)))&&((decide ((dv.length:Int)≤(dv.length:Int)))&&(Nat.ble (((dv.length:Int).toNat)*24) bm)) then
      (Loop (UF C t dv dv (dv.length:Int) aqO) (0,List.replicate ((dv.length:Int).toNat) (V.list ae ([]:LV)))).bind (cM (un fun (aqP:Int) (aqQ:LV)=>
       some [.list ah aqQ,V.int .i64 aqP]) (un fun auj=>un fun (ap8:Bool) (aqR:LV)=>
       some [.list ah aqR,V.int .i64 0]))
     else none)))
   else none
theorem aqS {t dv:LV} {r:Option LV} (h:ad6 CC t dv=r):CC J0 [.list ah t,.list ae dv]=r:=bz (aY (aqI CC) (aY (aqJ CC) (aY (aqL CC) au))) h
def mV (K:Nat) (Z:List Nat) (k:Nat):LV:=tab K fun x=>if∃j,j<k∧Z.getD j 0=x then nV (cN Z x) else .int .i64 (-1)
def iw (mul:Nat→Nat→Nat) (Z:List Nat) (i j:Nat):Nat:=cN Z (mul (Z.getD i 0) (Z.getD j 0))
theorem MV {Z:List Nat} (h:Z.Pairwise (· < ·)):Z.Nodup:=h.imp fun h=>by omega
theorem yS {Z:List Nat} {i:Nat} (hi:i<Z.length):Z.getD i 0∈Z:=by rw[bC hi];exact cJ hi
theorem BE {Z:List Nat} {x:Nat} (hx:x∈Z):Z.getD (cN Z x) 0=x:=by rw[bC (km hx)];exact Fo hx
section
variable {K:Nat} {mul:Nat→Nat→Nat} {G Z:List Nat} (h:Tb K mul) (ha: ∀i j k,i<K→j<K→k<K→mul (mul i j) k=mul i (mul j k)) (hZ:GV K mul G Z)
include hZ
theorem ad7 {i j:Nat} (hi:i<Z.length) (hj:j<Z.length):iw mul Z i j<Z.length:=km (hZ.cl _ (yS hi) _ (yS hj))
theorem UG {i j:Nat} (hi:i<Z.length) (hj:j<Z.length):Z.getD (iw mul Z i j) 0=mul (Z.getD i 0) (Z.getD j 0):=BE (hZ.cl _ (yS hi) _ (yS hj))
theorem GV.le:Z.length≤K:=eM.le ⟨MV hZ.GW,hZ.lt⟩
include h
theorem aqT (h0:Z≠[]):Tb Z.length (iw mul Z):=⟨by have:=List.length_pos_iff.2 h0;omega,ln hZ.le h.k4,fun i j hi hj=>ad7 hZ hi hj⟩
include ha
omit h in
theorem aqU {i j k:Nat} (hi:i<Z.length) (hj:j<Z.length) (hk:k<Z.length):iw mul Z (iw mul Z i j) k=iw mul Z i (iw mul Z j k):=by
 have e: ∀i,i<Z.length→Z.getD i 0<K:=fun i hi=>hZ.lt _ (yS hi);rw[iw,UG hZ hi hj,ha _ _ _ (e i hi) (e j hj) (e k hk),←UG hZ hj hk];rfl
theorem aqV (h0:Z≠[]):CC J0 [.list ah (tG K mul),.list ae (nS Z)]=some [.list ah (tG Z.length (iw mul Z)),.int .i64 0]:=by
 have h4:=h.k4;have hle:=hZ.le;have hp:=List.length_pos_iff.2 h0;refine aqS ?_;unfold ad6;rw[nK,cI];refine bs (Bg h ha) (bF rfl (bF (by simp;omega) (bs (adf (by omega) hZ.lt) (bF rfl (bT (ga (by omega) (by omega)) ?_)))));rw[Int.toNat_natCast,y8];refine bs (sP (fun i a=>((i:Int),a)) K (fun _=> .int .i64 (-1)) _ (by simp) (fun a=>((K:Int),false,a)) (fun i hi a hl=> ?_) ?_) ?_
 ·simp only[UE,GX,un,aq,aD];refine bT (cd hi) ((rn (by omega)).trans ?_);rw[cm (by omega),Int.toNat_natCast]
 ·simp only[UE,GX,un];refine bF (aV (az _)) ?_;rw[aV (az _)]
 simp only[un];rw[show (tab K fun _=>V.int .i64 (-1))=mV K Z 0 from cG fun j _=>by rw[aj];rintro ⟨a,ha,_⟩;omega];have l2: ∀{a b:LV},a=nS Z→b=nS Z→Loop (MS CC (tG K mul) a b (Z.length:Int)) (0,mV K Z 0)=some (.inr ((Z.length:Int),false,mV K Z Z.length)):=by
  rintro _ _ rfl rfl;refine dR Z.length (fun i=>((i:Int),mV K Z i)) _ (fun i hi=> ?_) ?_
  ·have UH:Z[i]<K:=hZ.lt _ (cJ hi);have n8:(mV K Z i).set Z[i] (.int .i64 (i:Int))=mV K Z (i+1):=by
    unfold mV;rw[iG];refine cG fun x _=> ?_;by_cases c:x=Z[i]
    ·rw[ak c,ak ⟨i,by omega,by rw[bC hi,c]⟩,c,A3 (MV hZ.GW) hi];rfl
    ·rw[aj c];refine ite_congr (propext ⟨fun ⟨j,hj,e⟩=>⟨j,by omega,e⟩,fun ⟨j,hj,e⟩=>⟨j,?_,e⟩⟩) (fun _=>rfl) (fun _=>rfl);by_cases c2:j=i
     ·rw[c2,bC hi] at e;exact absurd e.symm c
     ·omega
   have hl:(mV K Z i).length=K:=eC;simp only[MS,GY,un,aD];have fin:(bif (decide (0≤(nV Z[i]).toInt))&&(decide ((nV Z[i]).toInt<((mV K Z i).length:Int))) then
     ((mV K Z i)[((nV Z[i]).toInt:Int).toNat]?).bind fun _=>some (Sum.inl (β:=(Int×LV) ⊕ (Int×Bool×LV)) (wrap .i64 ((i:Int)+1),(mV K Z i).set ((nV Z[i]).toInt).toNat (V.int .i64 (i:Int))))
     else none)=some (Sum.inl (((i+1:Nat):Int),mV K Z (i+1))):=by
    refine bT (nz (by rw[hl];exact UH)) (bs (bR (by rw[hl];exact UH)) ?_);rw[show (nV Z[i]).toInt.toNat=Z[i] from rfl,n8,cm (by omega)]
   refine bT (cd hi) (bs (gb hi) ?_);rcases BY i with c|c
   ·refine bF (by simp[c]) fin
   ·refine bT (cW (by omega)) (bs (a:=nV (Z[i-1]'(by omega))) ?_ (bF ?_ fin))
    ·rw[show wrap .i64 ((i:Int)-1)=((i-1:Nat):Int) by rw[show ((i:Int)-1)=((i-1:Nat):Int) by omega];exact wrap64 (by omega) (by omega)];exact gb (by omega)
    ·have:=HR.1 hZ.GW (i-1) i (by omega) hi (by omega);exact cO (by show¬((Z[i-1]:Nat):Int)≥((Z[i]:Nat):Int);omega)
  ·simp only[MS,GY,un];refine bF (aV (az _)) ?_;rw[aV (az _)]
 have dW: ∀{x:Nat},x∈Z→(mV K Z Z.length)[x]? =some (nV (cN Z x)):=fun {x} hx=>by
  unfold mV;rw[lf (hZ.lt x hx),ak ⟨cN Z x,km hx,BE hx⟩]
 have l3: ∀{i:Nat} (hi:i<Z.length) {k1 k2:Int} {a b c l1:LV} {s:LV},a=nS Z→b=nS Z→s.length=Z.length→Loop (MT CC (tG K mul) a (i:Int) (Z[i]:Int) l1 k1 k2 b (Z.length:Int) (mV K Z Z.length)) (0,s.set i (.list ae (List.replicate Z.length (V.int .i64 0))))=some (.inr ((Z.length:Int),false,s.set i (.list ae (tab Z.length fun j=>nV (iw mul Z i j))))):=by
  rintro i hi k1 k2 _ _ c l1 s rfl rfl hs;refine sP (fun x b=>((x:Int),s.set i (.list ae b))) Z.length (fun j=>nV (iw mul Z i j)) (List.replicate Z.length (V.int .i64 0)) (by simp) (fun b=>(Sum.inr (α:=Int×LV) ((Z.length:Int),false,s.set i (.list ae b)))) (fun j hj b hb=> ?_) ?_
  ·simp only[MT,GZ,un,aq,aD,Int.toNat_natCast];have e0: ∀b:LV,(s.set i (V.list ae b))[i]? =some (.list ae b):=fun b=>qw (by rw[hs];exact hi);have hm:mul Z[i] Z[j]∈Z:=hZ.cl _ (cJ hi) _ (cJ hj);have e1:setRow Tryz.prog (b.set j (V.int .i64 (cN Z (mul Z[i] Z[j]):Int))) ah (s.set i (V.list ae b)) [(i,0)]=s.set i (.list ae (b.set j (V.int .i64 (cN Z (mul Z[i] Z[j]):Int)))):=by
    rw[Mr (e0 b),List.set_set]
   refine bT (cd hj) (bs (gb hj) ((cw (e0 b)).trans (bs (pk (hZ.lt _ (cJ hi))) (bs (uQ (hZ.lt _ (cJ hj))) (bT (nz (by rw[show (mV K Z Z.length).length=K from eC];exact hZ.lt _ hm)) (bs (by rw[show (nV (mul Z[i] Z[j])).toInt.toNat=mul Z[i] Z[j] from rfl];exact dW hm) (bs (oK (e0 b)) ?_)))))));rw[V.eh];refine bT (nz (by rw[hb];exact hj)) (bs (oK (e0 b)) ?_);rw[V.eh];refine bs (bR (by rw[hb];exact hj)) ?_;rw[show (nV (cN Z (mul Z[i] Z[j]))).toInt=((cN Z (mul Z[i] Z[j]):Nat):Int) from rfl];simp only[e1];refine (cw (e0 _)).trans (bs (oK (e0 _)) ?_)
   rw[V.eh];refine bT (nz (by rw[ti,hb];exact hj)) (bs (oK (e0 _)) ?_);rw[V.eh];refine bs (qw (by rw[hb];exact hj)) (bF yo ?_);rw[cm (by omega)];show _=some (Sum.inl (((j+1:Nat):Int),s.set i (V.list ae (b.set j (nV (iw mul Z i j))))));rw[iw,bC hi,bC hj];rfl
  ·simp only[MT,GZ,un];refine bF (aV (az _)) ?_;rw[aV (az _)]
 refine bs (l2 rfl rfl) ?_;simp only[cM,un];refine bT (ga (by omega) (by omega)) ?_;rw[Int.toNat_natCast];refine bs (sP (fun i a=>((i:Int),a)) Z.length (fun i=> .list ae (tab Z.length fun j=>nV (iw mul Z i j))) (List.replicate Z.length (V.list ae [])) (by simp) (fun a=>Sum.inr (α:=Int×LV) ((Z.length:Int),false,a)) (fun i hi a hl=> ?_) ?_) ?_
 ·simp only[UF,G0,un,aq,aD];rw[cI];refine bT (cd hi) (bs (gb hi) (bT (ga (by omega) (by omega)) ((rn (by rw[hl];exact hi)).trans ?_)));rw[Int.toNat_natCast,Int.toNat_natCast];refine bs (l3 (c:=[]) hi rfl rfl hl) ?_;rw[cm (by omega)];rfl
 ·simp only[UF,G0,un];refine bF (aV (az _)) ?_;rw[aV (az _)]
 ·rfl
end
noncomputable def G1 (C:af) (n:Int) (t7:LV) (t8 t9:Int) {β:Type} (kn:Int→Option β) (kr:((Bool) ⊕ (Int×Bool))→Option β):Option β:=
 bif decide (t9<t8) then
  (idx t7 t9).bind fun x1=>
  bif decide ((x1.toInt:Int)<0) then
  kr (.inl false)
  else
  bif decide ((x1.toInt:Int)≥n) then
   kr (.inl false)
  else
   kn (wrap .i64 (t9+1))
 else
  kr (.inr (t9,decide (t9<t8)))
noncomputable def UI (C:af) (n:Int) (t7:LV) (t8:Int):=fun t9=>G1 C n t7 t8 t9 (fun y=>some (Sum.inl y)) (fun r=>some (Sum.inr r))
noncomputable def aqW (C:af):cx:=br 33 Rr [EQ,EQ,EQ,H1] [[0],[1,2,3,0,0]] (@G1 C) bA
theorem aqX (C:af):aZ C (aqW C) 35 (Lp [1,0,1,0,0] 35):=bq Rr [EQ,EQ,EQ,H1] [[0],[1,2,3,0,0]] (@G1 C) (aR au)
noncomputable def ad8 (C:af) (list:LV) (n:Int):Option LV:=
 (Loop (UI C n list (list.length:Int)) 0).bind (cM (fun (sO:Bool)=>
  some [.bool sO]) (un fun (jB:Int) (gP:Bool)=>
  some [.bool true]))
theorem aqY {list:LV} {n:Int} {r:Option LV} (h:ad8 CC list n=r):CC Am [.list ae list,V.int .i64 n]=r:=bz (aY (aqX CC) au) h
noncomputable def G3 (C:af) (u f:LV) (x:Int) (t23:LV) (t24 t25:Int) (t30:LV) (t31 t32:Int) {β:Type} (kn:Int→Option β) (kr:((Bool) ⊕ (Int×Bool))→Option β):Option β:=
 bif decide (t32<t31) then
  (idx t30 t32).bind fun x3=>
  (idx f x3.toInt).bind fun x4=>
  (idx f x).bind fun x5=>
  (idx u x5.toInt).bind fun x6=>
  (idx f t32).bind fun x7=>
  (idx x6.toList x7.toInt).bind fun x8=>
  bif (x4.toInt:Int) != x8.toInt then
  kr (.inl false)
  else
  kn (wrap .i64 (t32+1))
 else
  kr (.inr (t32,decide (t32<t31)))
noncomputable def UJ (C:af) (u f:LV) (x:Int) (t23:LV) (t24 t25:Int) (t30:LV) (t31:Int):=fun t32=>G3 C u f x t23 t24 t25 t30 t31 t32 (fun y=>some (Sum.inl y)) (fun r=>some (Sum.inr r))
noncomputable def G4 (C:af) (u f t23:LV) (t24 t25:Int) {β:Type} (kn:Int→Option β) (kr:((Bool) ⊕ (Int×Bool))→Option β):Option β:=
 bif decide (t25<t24) then
  (idx t23 t25).bind fun x2=>
  (Loop (UJ C u f t25 t23 t24 t25 x2.toList (x2.toList.length:Int)) 0).bind (cM (fun (mL:Bool)=>
   kr (.inl mL)) (un fun (LJ:Int) (wz:Bool)=>
   kn (wrap .i64 (t25+1))))
 else
  kr (.inr (t25,decide (t25<t24)))
noncomputable def UK (C:af) (u f t23:LV) (t24:Int):=fun t25=>G4 C u f t23 t24 t25 (fun y=>some (Sum.inl y)) (fun r=>some (Sum.inr r))
noncomputable def ad9 (C:af):cx:=br 113 RP [EQ,EQ,EQ,EQ,EQ,EQ,EQ,EQ,H1] [[0],[1,2,3,4,5,6,7,8,0,0]] (@G3 C) (br 65 RQ [EQ,EQ,EQ,EQ,H1] [[0],[1,2,3,4,0,0]] (@G4 C) bA)
theorem aqZ (C:af):aZ C (ad9 C) 66 (Lp [1,1,0,1,0,0,1,1,0,0,1,1,0,0] 66):=bq RP [EQ,EQ,EQ,EQ,EQ,EQ,EQ,EQ,H1] [[0],[1,2,3,4,5,6,7,8,0,0]] (@G3 C) (aR au)
theorem aq0 (C:af):aZ C (ad9 C) 66 (Lp [1,1,0,1,0,0] 66):=bq RQ [EQ,EQ,EQ,EQ,H1] [[0],[1,2,3,4,0,0]] (@G4 C) (aR (aY (aqZ C) au))
noncomputable def aea (C:af) (t u f:LV):Option LV:=
 bif (f.length:Int) != (t.length:Int) then
  some [.bool false]
 else
  (C Am [.list ae f,V.int .i64 (u.length:Int)]).bind fun r1=>
  bif !((V.nth r1 0).toBool) then
  some [.bool false]
  else
  (Loop (UK C u f t (t.length:Int)) 0).bind (cM (fun (sY:Bool)=>
   some [.bool sY]) (un fun (yC:Int) (sS:Bool)=>
   some [.bool true]))
theorem aq1 {t u f:LV} {r:Option LV} (h:aea CC t u f=r):CC Qd [.list ah t,.list ah u,.list ae f]=r:=bz (aY (aq0 CC) au) h
noncomputable def aeb (C:af) (t u f:LV):Option LV:=
 bif (f.length:Int)==(t.length:Int) then
  (C uv [.list ah t]).bind fun r1=>
  bif (((V.nth r1 0).toInt):Int)==0 then
  (C uv [.list ah u]).bind fun r2=>
  bif (((V.nth r2 0).toInt):Int)==0 then
   (C Qd [.list ah t,.list ah u,.list ae f]).bind fun r3=>
   some [.bool ((V.nth r3 0).toBool)]
  else
   some [.bool false]
  else
  some [.bool false]
 else
  some [.bool false]
theorem aq2 {t u f:LV} {r:Option LV} (h:aeb CC t u f=r):CC Kb [.list ah t,.list ah u,.list ae f]=r:=bz (L:=bA) au h
noncomputable def aec (C:af) (x image:Int) (aH aI:LV):Option LV:=
 aq aH x fun x1=>
 bif decide ((x1.toInt:Int)<0) then
  aq aH x fun x2=>
  bif Nat.ble ((aI.length+([V.int .i64 x]:LV).length)*8) bm then
  aq (aD aH x (V.int .i64 image)) x fun x3=>
  some [.bool ((x3.toInt:Int)==image),.list ae (aD aH x (V.int .i64 image)),.list ae (aI++([V.int .i64 x]:LV))]
  else none
 else
  aq aH x fun x4=>
  some [.bool ((x4.toInt:Int)==image),.list ae aH,.list ae aI]
theorem aq3 {x image:Int} {aH aI:LV} {r:Option LV} (h:aec CC x image aH aI=r):CC rh [V.int .i64 x,V.int .i64 image,.list ae aH,.list ae aI]=r:=bz (L:=bA) au h
noncomputable def G5 (C:af) (t ei u cP:LV) (t54 t55:Int) (aP:LV) {β:Type} (kn:(Int×LV)→Option β) (kr:(Int×Bool×LV)→Option β):Option β:=
 bif decide (t55<t54) then
  aq aP t55 fun x5=>
  kn (wrap .i64 (t55+1),aD aP t55 (V.int .i64 (-1)))
 else
  kr (t55,decide (t55<t54),aP)
noncomputable def UL (C:af) (t ei u cP:LV) (t54:Int):=un fun t55 aP=>G5 C t ei u cP t54 t55 aP (fun y=>some (Sum.inl y)) (fun r=>some (Sum.inr r))
noncomputable def G6 (C:af) (t u cP t63:LV) (t64 t65:Int) (aH aI:LV) {β:Type} (kn:(Int×LV×LV)→Option β) (kr:((Bool×LV) ⊕ (Int×Bool×LV×LV))→Option β):Option β:=
 bif decide (t65<t64) then
  (idx t63 t65).bind fun x9=>
  (idx cP t65).bind fun lX=>
  (C rh [V.int .i64 x9.toInt,V.int .i64 lX.toInt,.list ae aH,.list ae aI]).bind fun dt=>
  bif !((V.nth dt 0).toBool) then
  kr (.inl (false,([]:LV)))
  else
  kn (wrap .i64 (t65+1),(V.nth (dt.drop 1) 0).toList,(V.nth ((dt.drop 1).drop 1) 0).toList)
 else
  kr (.inr (t65,decide (t65<t64),aH,aI))
noncomputable def G7 (C:af) (t u cP t63:LV) (t64:Int):=un fun t65=>un fun aH aI=>G6 C t u cP t63 t64 t65 aH aI (fun y=>some (Sum.inl y)) (fun r=>some (Sum.inr r))
noncomputable def G8 (C:af) (t u distinct:LV) (i x:Int) (t95:LV) (t96 t97:Int) (aH aI:LV) {β:Type} (kn:(Int×LV×LV)→Option β) (kr:((Bool×LV) ⊕ (Int×Bool×LV×LV))→Option β):Option β:=
 bif decide (t97<t96) then
  (idx t95 t97).bind fun oJ=>
  (idx t x).bind fun sW=>
  (idx sW.toList oJ.toInt).bind fun sX=>
  aq aH x fun oI=>
  (idx u oI.toInt).bind fun pj=>
  bif (decide (0≤oJ.toInt))&&(decide (oJ.toInt<(aH.length:Int))) then
  (aH[(oJ.toInt:Int).toNat]?).bind fun lY=>
  (idx pj.toList lY.toInt).bind fun yN=>
  (C rh [V.int .i64 sX.toInt,V.int .i64 yN.toInt,.list ae aH,.list ae aI]).bind fun UM=>
  bif !((V.nth UM 0).toBool) then
   kr (.inl (false,([]:LV)))
  else
   kn (wrap .i64 (t97+1),(V.nth (UM.drop 1) 0).toList,(V.nth ((UM.drop 1).drop 1) 0).toList)
  else none
 else
  kr (.inr (t97,decide (t97<t96),aH,aI))
noncomputable def G9 (C:af) (t u distinct:LV) (i x:Int) (t95:LV) (t96:Int):=un fun t97=>un fun aH aI=>G8 C t u distinct i x t95 t96 t97 aH aI (fun y=>some (Sum.inl y)) (fun r=>some (Sum.inr r))
noncomputable def MW (C:af) (t u distinct:LV) (i:Int) (aH aI:LV) {β:Type} (kn:(Int×LV×LV)→Option β) (kr:((Bool×LV) ⊕ (Int×Bool×LV×LV))→Option β):Option β:=
 bif decide (i<(aI.length:Int)) then
  aq aI i fun sU=>
  (Loop (G9 C t u distinct i sU.toInt distinct (distinct.length:Int)) (0,aH,aI)).bind (cM (un fun (LG:Bool) (aq4:LV)=>
   kr (.inl (LG,aq4))) (un fun adC=>un fun (ad5:Bool)=>un fun (aq5:LV) (E7:LV)=>
   kn (wrap .i64 (i+1),aq5,E7)))
 else
  kr (.inr (i,decide (i<(aI.length:Int)),aH,aI))
noncomputable def MX (C:af) (t u distinct:LV):=un fun i=>un fun aH aI=>MW C t u distinct i aH aI (fun y=>some (Sum.inl y)) (fun r=>some (Sum.inr r))
noncomputable def MY (C:af):cx:=br 81 Q1 [EQ,EQ,EQ,EQ,EQ,H1,H1] [[1,2,3,4,5,0,0,0]] (@G5 C) (br 193 Q2 [EQ,EQ,EQ,EQ,EQ,H1,H1,H1] [[0,0],[1,2,3,4,5,0,0,0,0]] (@G6 C) (br 369 Q3 [EQ,EQ,EQ,EQ,EQ,EQ,EQ,H1,H1,H1] [[0,0],[1,2,3,4,5,6,7,0,0,0,0]] (@G8 C) (br 305 Q4 [EQ,EQ,EQ,H1,H1,H1] [[0,0],[1,2,3,0,0,0,0]] (@MW C) bA)))
theorem aq6 (C:af):aZ C (MY C) 12 (Lp [1,1,1,0,1,0,0] 12):=bq Q1 [EQ,EQ,EQ,EQ,EQ,H1,H1] [[1,2,3,4,5,0,0,0]] (@G5 C) (aR au)
theorem aq7 (C:af):aZ C (MY C) 12 (Lp [1,1,1,1,1,1,0,1,0,0] 12):=bq Q2 [EQ,EQ,EQ,EQ,EQ,H1,H1,H1] [[0,0],[1,2,3,4,5,0,0,0,0]] (@G6 C) (aR au)
theorem aq8 (C:af):aZ C (MY C) 12 (Lp [1,1,1,1,1,1,1,1,0,1,0,0,1,0,0,1,1,0,0] 12):=bq Q3 [EQ,EQ,EQ,EQ,EQ,EQ,EQ,H1,H1,H1] [[0,0],[1,2,3,4,5,6,7,0,0,0,0]] (@G8 C) (aR au)
theorem aq9 (C:af):aZ C (MY C) 12 (Lp [1,1,1,1,1,1,1,1,0,1,0,0] 12):=bq Q4 [EQ,EQ,EQ,H1,H1,H1] [[0,0],[1,2,3,0,0,0,0]] (@MW C) (aR (aY (aq8 C) au))
noncomputable def aed (C:af) (t ei u cP:LV):Option LV:=
 bif (ei.length:Int) != (cP.length:Int) then
  some [.bool false,.list ae ([]:LV)]
 else
  (C uv [.list ah t]).bind fun r1=>
  bif (((V.nth r1 0).toInt):Int) != 0 then
  some [.bool false,.list ae ([]:LV)]
  else
  (C uv [.list ah u]).bind fun r2=>
  bif (((V.nth r2 0).toInt):Int) != 0 then
   some [.bool false,.list ae ([]:LV)]
  else
   (C Am [.list ae ei,V.int .i64 (t.length:Int)]).bind fun r3=>
   bif !((V.nth r3 0).toBool) then
   some [.bool false,.list ae ([]:LV)]
   else
   (C Am [.list ae cP,V.int .i64 (u.length:Int)]).bind fun r4=>
   bif !((V.nth r4 0).toBool) then
    some [.bool false,.list ae ([]:LV)]
   else
    bif (decide (0≤(t.length:Int)))&&((decide ((t.length:Int)≤(t.length:Int)))&&(Nat.ble (((t.length:Int).toNat)*8) bm)) then
    (Loop (UL C t ei u cP ((List.replicate ((t.length:Int).toNat) (V.int .i64 0)).length:Int)) (0,List.replicate ((t.length:Int).toNat) (V.int .i64 0))).bind (un fun oz=>un fun (oA:Bool) (wx:LV)=>
     (Loop (G7 C t u cP ei (ei.length:Int)) (0,wx,([]:LV))).bind (cM (un fun (sY:Bool) (ara:LV)=>
      some [.bool sY,.list ae ara]) (un fun sS=>un fun (ac3:Bool)=>un fun (yw:LV) (j4:LV)=>
      bif (decide (0≤(j4.length:Int)))&&((decide ((j4.length:Int)≤(j4.length:Int)))&&(decide ((j4.length:Int)≤(j4.length:Int)))) then
       (Loop (MX C t u ((j4.drop 0).take ((j4.length:Int).toNat))) (0,yw,j4)).bind (cM (un fun (MF:Bool) (arb:LV)=>
        some [.bool MF,.list ae arb]) (un fun auk=>un fun (aqm:Bool)=>un fun (Fu:LV) (Fv:LV)=>
        bif decide ((Fv.length:Int)<(t.length:Int)) then
        some [.bool false,.list ae ([]:LV)]
        else
        some [.bool true,.list ae Fu]))
      else none)))
    else none
theorem arc {t ei u cP:LV} {r:Option LV} (h:aed CC t ei u cP=r):CC J1 [.list ah t,.list ae ei,.list ah u,.list ae cP]=r:=bz (aY (aq6 CC) (aY (aq7 CC) (aY (aq9 CC) au))) h
noncomputable def Ha (C:af) (t21:LV) (t22 t23:Int) (BF:LV) {β:Type} (kn:(Int×LV)→Option β) (kr:(Int×Bool×LV)→Option β):Option β:=
 bif decide (t23<t22) then
  (idx t21 t23).bind fun x2=>
  bif (decide (0≤x2.toInt))&&(decide (x2.toInt<(BF.length:Int))) then
  (BF[(x2.toInt:Int).toNat]?).bind fun x3=>
  kn (wrap .i64 (t23+1),aD BF (x2.toInt) (.bool true))
  else none
 else
  kr (t23,decide (t23<t22),BF)
noncomputable def MZ (C:af) (t21:LV) (t22:Int):=un fun t23 BF=>Ha C t21 t22 t23 BF (fun y=>some (Sum.inl y)) (fun r=>some (Sum.inr r))
noncomputable def Hb (C:af) (t32:Int) (UN:LV) (t33:Int) (BG:LV) {β:Type} (kn:(Int×LV)→Option β) (kr:(Int×Bool×LV)→Option β):Option β:=
 bif decide (t33<t32) then
  aq UN t33 fun x7=>
  bif x7.toBool then
  bif Nat.ble ((BG.length+([V.int .i64 t33]:LV).length)*8) bm then
   kn (wrap .i64 (t33+1),BG++([V.int .i64 t33]:LV))
  else none
  else
  kn (wrap .i64 (t33+1),BG)
 else
  kr (t33,decide (t33<t32),BG)
noncomputable def UO (C:af) (t32:Int) (UN:LV):=un fun t33 BG=>Hb C t32 UN t33 BG (fun y=>some (Sum.inl y)) (fun r=>some (Sum.inr r))
noncomputable def aee (C:af):cx:=br 81 Q5 [EQ,EQ,H1,H1] [[1,2,0,0,0]] (@Ha C) (br 177 Q6 [EQ,H1,H1,EQ] [[1,0,0,0,4]] (@Hb C) bA)
theorem ard (C:af):aZ C (aee C) 13 (Lp [1,1,1,0,1,0,0] 13):=bq Q5 [EQ,EQ,H1,H1] [[1,2,0,0,0]] (@Ha C) (aR au)
theorem are (C:af):aZ C (aee C) 13 (Lp [1,1,1,1,1,0,1,0,0] 13):=bq Q6 [EQ,H1,H1,EQ] [[1,0,0,0,4]] (@Hb C) (aR au)
noncomputable def aef (C:af) (t u f:LV):Option LV:=
 (C Kb [.list ah t,.list ah u,.list ae f]).bind fun r1=>
 bif !((V.nth r1 0).toBool) then
  some [.list ae ([]:LV)]
 else
  bif (decide (0≤(u.length:Int)))&&((decide ((u.length:Int)≤(u.length:Int)))&&(Nat.ble (((u.length:Int).toNat)*1) bm)) then
  (Loop (MZ C f (f.length:Int)) (0,List.replicate ((u.length:Int).toNat) (V.bool false))).bind (un fun gP=>un fun (oy:Bool) (aeg:LV)=>
   (Loop (UO C (aeg.length:Int) aeg) (0,([]:LV))).bind (un fun wk=>un fun (mL:Bool) (arf:LV)=>
    some [.list ae arf]))
  else none
theorem arh {t u f:LV} {r:Option LV} (h:aef CC t u f=r):CC J2 [.list ah t,.list ah u,.list ae f]=r:=bz (aY (ard CC) (aY (are CC) au)) h
theorem UP {l:List Nat} {n:Nat} (hl:l.length≤1000000) (h: ∀y∈l,y<n):CC Am [.list ae (nS l),.int .i64 (n:Int)]=some [.bool true]:=by
 refine aqY ?_;unfold ad8;rw[cI];refine bs (dR l.length (fun i=>(i:Int)) (.inr ((l.length:Int),false)) (fun i hi=> ?_) ?_) rfl
 ·simp only[UI,G1];refine bT (cd hi) (bs (gb hi) (bF yo (bF (Fk (h _ (cJ hi))) ?_)));rw[cm (by omega)]
 ·simp only[UI,G1];rw[aV (az _)];rfl
def fV (K:Nat) (φ:Nat→Nat) (M:List Nat):LV:=tab K fun x=>if x∈M then nV (φ x) else .int .i64 (-1)
section
variable {K:Nat} {φ:Nat→Nat}
theorem M1 {M:List Nat} {x:Nat} (hx:x<K):(fV K φ M)[x]? =some (if x∈M then nV (φ x) else .int .i64 (-1)):=lf hx
theorem ari {M:List Nat} {x:Nat} (h:x∉M):(fV K φ M).set x (.int .i64 (φ x:Int))=fV K φ (M++[x]):=by
 unfold fV;rw[iG];refine cG fun j _=> ?_;by_cases c:j=x
 ·rw[ak c,c,ak (by simp)];rfl
 ·rw[aj c];exact ite_congr (by simp[c]) (fun _=>rfl) (fun _=>rfl)
theorem aeh {M:List Nat} (hM:eM K M) (h4:K≤400) {x:Nat} (hx:x<K):CC rh [.int .i64 (x:Int),.int .i64 (φ x:Int),.list ae (fV K φ M),.list ae (nS M)]=some [.bool true,.list ae (fV K φ (bQ M x)),.list ae (nS (bQ M x))]:=by
 have hl:=hM.le;refine aq3 ?_;unfold aec;have e0:=M1 (φ:=φ) (M:=M) hx;by_cases c:x∈M
 ·rw[ak c] at e0;rw[show bQ M x=M by rw[bQ,ak c]];refine (cw e0).trans (bF yo ((cw e0).trans ?_))
  simp[nV]
 ·rw[aj c] at e0;have e1:(fV K φ (M++[x]))[x]? =some (nV (φ x)):=by rw[M1 hx,ak (by simp)]
  rw[show bQ M x=M++[x] by rw[bQ,aj c]];refine (cw e0).trans (bT (cW (by decide)) ((cw e0).trans (bT (cap (by rw[cI];simp;omega) (by omega)) ?_)))
  rw[show aD (fV K φ M) (x:Int) (.int .i64 (φ x:Int))=fV K φ (M++[x]) from ari c];refine (cw e1).trans ?_;simp[nV,nS]
theorem arj {M:List Nat} (h: ∀x,x<K→x∈M):fV K φ M=nS ((List.range K).map φ):=by
 rw[nS,pH];exact cG fun x hx=>ak (h x hx)
variable {U:Nat} {mul mW:Nat→Nat→Nat} (h:Tb K mul) (ha: ∀i j k,i<K→j<K→k<K→mul (mul i j) k=mul i (mul j k)) (h2:Tb U mW) (zI: ∀i j k,i<U→j<U→k<U→mW (mW i j) k=mW i (mW j k))
  (pq: ∀x,x<K→φ x<U) (M3: ∀x y,x<K→y<K→φ (mul x y)=mW (φ x) (φ y))
include h ha h2 zI pq M3
theorem ark:CC Kb [.list ah (tG K mul),.list ah (tG U mW),.list ae (nS ((List.range K).map φ))]=some [.bool true]:=by
 have h4:=h.k4;have hlen:(nS ((List.range K).map φ)).length=K:=by rw[cI];simp
 have ni: ∀{x:Nat},x<K→idx (nS ((List.range K).map φ)) (x:Int)=some (nV (φ x)):=fun {x} hx=>by
  rw[gb (by simpa using hx)];simp[nV]
 refine aq2 ?_;unfold aeb;rw[hlen,nK];refine bT (by simp) (bs (Bg h ha) (bT rfl (bs (Bg h2 zI) (bT rfl (bs (a:=[.bool true]) (aq1 ?_) rfl)))));unfold aea;rw[hlen,nK,nK];refine bF (by simp) (bs (UP (by simp;omega) fun y hy=> ?_) (bF rfl (bs (dR K (fun i=>(i:Int)) (.inr ((K:Int),false)) (fun i hi=> ?_) ?_) rfl)))
 ·obtain ⟨x,hx,rfl⟩:=eu.1 hy;exact pq x (fg.1 hx)
 ·simp only[UK,G4];refine bT (cd hi) (bs (pk hi) ?_);rw[V.eh,eC];refine bs (dR K (fun j=>(j:Int)) (.inr ((K:Int),false)) (fun j hj=> ?_) ?_) ?_
  ·simp only[UJ,G3];refine bT (cd hj) (bs (qg hj) (bs (ni (h.lt i j hi hj)) (bs (ni hi) (bs (pk (pq i hi)) (bs (ni hj) (bs (uQ (pq j hj)) (bF ?_ ?_)))))))
   ·show (((φ (mul i j):Nat):Int) != ((mW (φ i) (φ j):Nat):Int))=false;rw[M3 i j hi hj];simp
   ·rw[cm (by omega)]
  ·simp only[UJ,G3];rw[aV (az _)];rfl
  ·rw[cm (by omega)];rfl
 ·simp only[UK,G4];rw[aV (az _)];rfl
theorem arl (arn: ∀y,y<U→∃x,x<K∧φ x=y):CC J2 [.list ah (tG K mul),.list ah (tG U mW),.list ae (nS ((List.range K).map φ))]=some [.list ae (nS (List.range U))]:=by
 have h4:=h.k4;have h24:=h2.k4;have hlen:(nS ((List.range K).map φ)).length=K:=by rw[cI];simp
 have ni: ∀{x:Nat},x<K→idx (nS ((List.range K).map φ)) (x:Int)=some (nV (φ x)):=fun {x} hx=>by
  rw[gb (by simpa using hx)];simp[nV]
 refine arh ?_;unfold aef;rw[hlen,nK];refine bs (ark h ha h2 zI pq M3) (bF rfl (bT (ga (by omega) (by omega)) ?_));rw[Int.toNat_natCast];have l1:Loop (MZ CC (nS ((List.range K).map φ)) (K:Int)) (0,List.replicate U (.bool false))=some ((K:Int),false,List.replicate U (.bool true)):=by
  rw[show List.replicate U (V.bool false)=tab U fun y=> .bool (decide (y∈(List.range 0).map φ)) by rw[mM];exact cG fun j _=>by simp];rw[show List.replicate U (V.bool true)=tab U fun y=> .bool (decide (y∈(List.range K).map φ)) by rw[mM];exact cG fun j hj=>by obtain ⟨x,hx,e⟩:=arn j hj;rw[cW (eu.2 ⟨x,fg.2 hx,e⟩)]];refine dR K (fun i=>((i:Int),tab U fun y=>V.bool (decide (y∈(List.range i).map φ)))) _ (fun i hi=> ?_) ?_
  ·simp only[MZ,Ha,un,aD];refine bT (cd hi) (bs (ni hi) (bT (nz (by rw[eC];exact pq i hi)) (bs (bR (by rw[eC];exact pq i hi)) ?_)));rw[cm (by omega),show (nV (φ i)).toInt.toNat=φ i from rfl,iG];refine congrArg (fun t=>some (Sum.inl (((i+1:Nat):Int),t))) (cG fun y _=> ?_);rw[B8,rK];by_cases c:y=φ i
   ·rw[ak c,cW (by simp[c])]
   ·rw[aj c];exact congrArg V.bool (decide_eq_decide.2 (by simp[c]))
  ·simp only[MZ,Ha,un];refine bF (aV (az _)) ?_;rw[aV (az _)]
 refine bs l1 ?_;simp only[un];rw[y8];refine bs (dR U (fun i=>((i:Int),nS (List.range i))) ((U:Int),false,nS (List.range U)) (fun i hi=> ?_) ?_) rfl
 ·simp only[UO,Hb,un];have e0:(List.replicate U (V.bool true))[i]? =some (.bool true):=by rw[HM,ak hi]
  refine bT (cd hi) ((cw e0).trans (bT rfl (bT (cap (by rw[cI];simp;omega) (by omega)) ?_)));rw[cm (by omega),B8];simp[nS,nV]
 ·simp only[UO,Hb,un];refine bF (aV (az _)) ?_;rw[aV (az _)]
theorem aro {gs:List Nat} (hg: ∀g∈gs,g<K) (hl:gs.length≤1000) (xz: ∀x,x<K→kq mul gs x):CC J1 [.list ah (tG K mul),.list ae (nS gs),.list ah (tG U mW),.list ae (nS (gs.map φ))]=some [.bool true,.list ae (nS ((List.range K).map φ))]:=by
 have h4:=h.k4;have lM:(nS (gs.map φ)).length=gs.length:=by rw[cI];simp
 refine arc ?_;unfold aed;rw[lM,cI,nK,nK];refine bF (by simp) (bs (Bg h ha) (bF rfl (bs (Bg h2 zI) (bF rfl (bs (UP (by omega) hg) (bF rfl (bs (UP (by simp;omega) fun y hy=> ?_) (bF rfl (bT (ga (by omega) (by omega)) ?_)))))))))
 ·obtain ⟨x,hx,rfl⟩:=eu.1 hy;exact pq x (hg x hx)
 rw[Int.toNat_natCast,y8];refine bs (sP (fun i a=>((i:Int),a)) K (fun _=> .int .i64 (-1)) (List.replicate K (V.int .i64 0)) (by simp) (fun a=>((K:Int),false,a)) (fun i hi a hl=> ?_) ?_) ?_
 ·simp only[UL,G5,un,aq,aD];refine bT (cd hi) ((rn (by omega)).trans ?_);rw[cm (by omega),Int.toNat_natCast]
 ·simp only[UL,G5,un];refine bF (aV (az _)) ?_;rw[aV (az _)]
 simp only[un];rw[show (tab K fun _=>V.int .i64 (-1))=fV K φ [] from cG fun j _=>by simp];have l2: ∃M,Loop (G7 CC (tG K mul) (tG U mW) (nS (gs.map φ)) (nS gs) (gs.length:Int)) (0,fV K φ [],([]:LV))=some (.inr ((gs.length:Int),false,fV K φ M,nS M))∧eM K M∧∀g,g∈gs→g∈M:=by
  have key:=sJ (step:=G7 CC (tG K mul) (tG U mW) (nS (gs.map φ)) (nS gs) (gs.length:Int)) (fun i y=> ∃M,y=((i:Int),fV K φ M,nS M)∧eM K M∧∀j,j<i→gs.getD j 0∈M) (fun r=> ∃M,r= .inr ((gs.length:Int),false,fV K φ M,nS M)∧eM K M∧∀j,j<gs.length→gs.getD j 0∈M) gs.length 0 (0,fV K φ [],([]:LV)) (fun i _ hi y hy=> ?_) (fun y hy=> ?_) ⟨[],rfl,⟨List.nodup_nil,fun _ h=>(by cases h)⟩,fun j hj=>(by omega)⟩
  ·obtain ⟨r,e,M,rfl,hM,hj⟩:=key;refine ⟨M,e,hM,fun g hg=> ?_⟩;obtain ⟨j,dN,rfl⟩:=qx hg;rw[←bC (d:=0) dN];exact hj j dN
  ·obtain ⟨M,rfl,hM,hj⟩:=hy;have ca:i<gs.length:=by omega
   have MR:=hg _ (cJ ca);have hgm:idx (nS (gs.map φ)) (i:Int)=some (nV (φ gs[i])):=by rw[gb (by simpa using ca)];simp[nV]
   simp only[G7,G6,un];refine ⟨_,bT (cd ca) (bs (gb ca) (bs hgm (bs (aeh hM h4 MR) (bF rfl rfl)))),bQ M gs[i],?_,hM.add MR,fun j dN=> ?_⟩
   ·rw[cm (by omega)];rfl
   ·by_cases c:j=i
    ·rw[c,bC ca];exact wj
    ·exact (nw _ _).subset (hj j (by omega))
  ·obtain ⟨M,rfl,hM,hj⟩:=hy;rw[eQ] at*
   simp only[G7,G6,un];refine ⟨_,bF (aV (az _)) rfl,M,?_,hM,hj⟩;rw[aV (az _)]
 obtain ⟨D,e2,hD,hDg⟩:=l2;have yz:=hD.le;refine bs e2 ?_;simp only[cM,un];refine bT (by simp) ?_;rw[cI,Int.toNat_natCast,lq,show (nS D).take D.length=nS D from List.take_of_length_le (by rw[cI];exact az _)];have l3: ∀{M0:List Nat} {i:Nat} (hi:i<M0.length),eM K M0→(∀g∈D,g∈M0)→∃M,Loop (G9 CC (tG K mul) (tG U mW) (nS D) (i:Int) (M0[i]:Int) (nS D) ((nS D).length:Int)) (0,fV K φ M0,nS M0)=some (.inr ((D.length:Int),false,fV K φ M,nS M))∧eM K M∧M0 <+: M∧∀g∈D,mul M0[i] g∈M:=by
  intro M0 i hi rz uT;have hx:=rz.lt _ (cJ hi);have key:=sJ (step:=G9 CC (tG K mul) (tG U mW) (nS D) (i:Int) (M0[i]:Int) (nS D) ((nS D).length:Int)) (fun k y=> ∃M,y=((k:Int),fV K φ M,nS M)∧eM K M∧M0 <+: M∧∀j,j<k→mul M0[i] (D.getD j 0)∈M) (fun r=> ∃M,r= .inr ((D.length:Int),false,fV K φ M,nS M)∧eM K M∧M0 <+: M∧∀j,j<D.length→mul M0[i] (D.getD j 0)∈M) D.length 0 (0,fV K φ M0,nS M0) (fun k _ hk y hy=> ?_) (fun y hy=> ?_) ⟨M0,rfl,rz,nT _,fun j hj=>(by omega)⟩
  ·obtain ⟨r,e,M,rfl,hM,hp,hj⟩:=key;refine ⟨M,e,hM,hp,fun g hg=> ?_⟩;obtain ⟨j,dN,rfl⟩:=qx hg;have:=hj j dN;rwa [bC dN] at this
  ·obtain ⟨M,rfl,hM,hp,hj⟩:=hy;have da:k<D.length:=by omega
   have hgD:=cJ da;have BH:=hD.lt _ hgD;have hmK:=h.lt _ _ hx BH;have e5:(fV K φ M)[M0[i]]? =some (nV (φ M0[i])):=by rw[M1 hx,ak (hp.subset (cJ hi))]
   have e6:(fV K φ M)[D[k]]? =some (nV (φ D[k])):=by rw[M1 BH,ak (hp.subset (uT _ hgD))]
   have er:=aeh (φ:=φ) hM h4 hmK;rw[M3 _ _ hx BH] at er;simp only[G9,G8,un];refine ⟨_,bT (by rw[cI];exact cd da) (bs (gb da) (bs (pk hx) (bs (uQ BH) ((cw e5).trans (bs (pk (pq _ hx)) (bT (nz (by rw[show (fV K φ M).length=K from eC];exact BH)) (bs (a:=nV (φ D[k])) e6 (bs (uQ (pq _ BH)) (bs er (bF rfl rfl)))))))))),bQ M (mul M0[i] D[k]),?_,hM.add hmK,hp.trans (nw _ _),fun j dN=> ?_⟩
   ·rw[cm (by omega)];rfl
   ·by_cases c:j=k
    ·rw[c,bC da];exact wj
    ·exact (nw _ _).subset (hj j (by omega))
  ·obtain ⟨M,rfl,hM,hp,hj⟩:=hy;rw[eQ] at*
   simp only[G9,G8,un];refine ⟨_,bF (by rw[cI];exact aV (az _)) rfl,M,?_,hM,hp,hj⟩;rw[cI,aV (az _)]
 have l4: ∃M,Loop (MX CC (tG K mul) (tG U mW) (nS D)) (0,fV K φ D,nS D)=some (.inr ((M.length:Int),false,fV K φ M,nS M))∧eM K M∧(∀g∈D,g∈M)∧∀x∈M,∀g∈D,mul x g∈M:=by
  have key:=DO (step:=MX CC (tG K mul) (tG U mW) (nS D)) (fun y=> ∃(i:Nat) (M:List Nat),y=((i:Int),fV K φ M,nS M)∧eM K M∧(∀g∈D,g∈M)∧i≤M.length∧∀j,j<i→∀g∈D,mul (M.getD j 0) g∈M) (fun y=>1000-y.1.toNat) (fun r=> ∃M,r= .inr ((M.length:Int),false,fV K φ M,nS M)∧eM K M∧(∀g∈D,g∈M)∧∀j,j<M.length→∀g∈D,mul (M.getD j 0) g∈M) (fun y hy=> ?_) (0,fV K φ D,nS D) ⟨0,D,rfl,hD,fun g hg=>hg,kK _,fun j hj=>(by omega)⟩
  ·obtain ⟨r,e,M,rfl,hM,uT,hj⟩:=key;refine ⟨M,e,hM,uT,fun x hx=> ?_⟩;obtain ⟨j,dN,rfl⟩:=qx hx;have:=hj j dN;rwa [bC dN] at this
  ·obtain ⟨i,M,rfl,hM,uT,hi,hj⟩:=hy;have hle:=hM.le;simp only[MX,MW,un];rw[cI];by_cases c:i<M.length
   ·obtain ⟨M',e,Gd,hp,hm⟩:=l3 c hM uT;refine .inl ⟨(((i+1:Nat):Int),fV K φ M',nS M'),bT (cd c) ((cw (uJ c)).trans (bs e ?_)),⟨i+1,M',rfl,Gd,fun g hg=>hp.subset (uT g hg),by have:=hp.length_le;omega,fun j dN g hg=> ?_⟩,by simp only;omega⟩
    ·simp only[cM,un];rw[cm (by omega)]
    ·have dj:j<M.length:=by omega
     have mG:M'.getD j 0=M.getD j 0:=by
      obtain ⟨t,rfl⟩:=hp;rw[bC (by simp;omega),bC dj,List.getElem_append_left dj]
     rw[mG];by_cases c2:j=i
     ·rw[c2,bC c];exact hm g hg
     ·exact hp.subset (hj j (by omega) g hg)
   ·obtain rfl:i=M.length:=by omega
    refine .inr ⟨_,bF (aV (az _)) rfl,M,?_,hM,uT,hj⟩;rw[aV (az _)]
 obtain ⟨M,e4,hM,uT,mD⟩:=l4;have ka: ∀x,kq mul gs x→x∈M:=fun x hx=>by
  induction hx with
  | one hg=>exact uT _ (hDg _ hg)
  | more _ hg ih=>exact mD _ ih _ (hDg _ hg)
 have hKM:K≤M.length:=by
  have:=wM (l₁:=List.range K) (l₂:=M) List.nodup_range fun x hx=>ka x (xz x (fg.1 hx));simpa using this
 refine bs e4 ?_;simp only[cM,un];refine bF (by rw[cI];exact aV hKM) ?_;rw[arj fun x hx=>ka x (xz x hx)]
end
noncomputable def Hc (C:af) (s:LV) (v t7 t8:Int) {β:Type} (kn:Int→Option β) (kr:((Int) ⊕ (Int×Bool))→Option β):Option β:=
 bif decide (t8<t7) then
  (idx s t8).bind fun x1=>
  bif v==x1.toInt then
  kr (.inl t8)
  else
  kn (wrap .i64 (t8+1))
 else
  kr (.inr (t8,decide (t8<t7)))
noncomputable def M4 (C:af) (s:LV) (v t7:Int):=fun t8=>Hc C s v t7 t8 (fun y=>some (Sum.inl y)) (fun r=>some (Sum.inr r))
noncomputable def arp (C:af):cx:=br 33 R5 [EQ,EQ,EQ,H1] [[0],[1,2,3,0,0]] (@Hc C) bA
theorem arq (C:af):aZ C (arp C) 85 (Lp [1,0,1,0,0] 85):=bq R5 [EQ,EQ,EQ,H1] [[0],[1,2,3,0,0]] (@Hc C) (aR au)
noncomputable def UQ (C:af) (s:LV) (v:Int):Option LV:=
 (Loop (M4 C s v (s.length:Int)) 0).bind (cM (fun sO=>
  some [V.int .i64 sO]) (un fun (jB:Int) (gP:Bool)=>
  some [V.int .i64 (-1)]))
theorem aei {s:LV} {v:Int} {r:Option LV} (h:UQ CC s v=r):CC Ks [.list ae s,V.int .i64 v]=r:=bz (aY (arq CC) au) h
noncomputable def aej (C:af) (s:LV) (v:Int):Option LV:=
 (C Ks [.list ae s,V.int .i64 v]).bind fun r1=>
 some [.bool (decide ((((V.nth r1 0).toInt):Int)≥0))]
theorem ars {s:LV} {v:Int} {r:Option LV} (h:aej CC s v=r):CC Kf [.list ae s,V.int .i64 v]=r:=bz (L:=bA) au h
noncomputable def Hd (C:af) (n ss:Int) (aP:LV) (mc me:Int) (mf:Bool) (mg ms:Int) (aS bd bJ bS b7 fu iq fH eY eZ fa ft dx fG jD:LV) (i:Int) (e7 fS:LV) {β:Type} (kn:(Int×LV×LV)→Option β) (kr:(Int×Bool×LV×LV)→Option β):Option β:=
 bif decide (i<n) then
  aq eY i fun x3=>
  bif (decide (0≤x3.toInt))&&(decide (x3.toInt<(e7.length:Int))) then
  (e7[(x3.toInt:Int).toNat]?).bind fun x4=>
  aq eZ i fun x5=>
  bif Nat.ble (x4.toStr.length+(lz ([.int .u8 (wrap .u8 (wrap .i64 (97+x5.toInt)))]:LV)).length) pK then
   aq e7 i fun x6=>
   aq fS i fun x7=>
   kn (wrap .i64 (i+1),aD e7 i (.str (x4.toStr++(lz ([.int .u8 (wrap .u8 (wrap .i64 (97+x5.toInt)))]:LV)))),aD fS i (.bool true))
  else none
  else none
 else
  kr (i,decide (i<n),e7,fS)
noncomputable def He (C:af) (n ss:Int) (aP:LV) (mc me:Int) (mf:Bool) (mg ms:Int) (aS bd bJ bS b7 fu iq fH eY eZ fa ft dx fG jD:LV):=un fun i=>un fun e7 fS=>Hd C n ss aP mc me mf mg ms aS bd bJ bS b7 fu iq fH eY eZ fa ft dx fG jD i e7 fS (fun y=>some (Sum.inl y)) (fun r=>some (Sum.inr r))
noncomputable def Hf (C:af) (n i t87 t88 ss:Int) (aP:LV) (mc me:Int) (mf:Bool) (mg ms:Int) (s9 bd bJ bS b7 fu iq fH eY eZ fa ft e7 fG jD fS:LV) (j:Int) (dx:LV) {β:Type} (kn:(Int×LV)→Option β) (kr:(Int×Bool×LV)→Option β):Option β:=
 bif decide (j<n) then
  aq dx i fun sW=>
  aq dx i fun sX=>
  aq eZ j fun oI=>
  (eS Tryz.prog ah dx [(i.toNat,0)]).bind fun pj=>
  bif (decide (0≤oI.toInt))&&(decide (oI.toInt<(pj.toList.length:Int))) then
  (eS Tryz.prog ah dx [(i.toNat,0)]).bind fun lY=>
  (lY.toList[(oI.toInt:Int).toNat]?).bind fun yN=>
  bif (decide (0≤yN.toInt))&&(decide (yN.toInt<(s9.length:Int))) then
   (s9[(yN.toInt:Int).toNat]?).bind fun A6=>
   aq fa j fun LP=>
   (idx A6.toList LP.toInt).bind fun yK=>
   (eS Tryz.prog ah dx [(i.toNat,0)]).bind fun yL=>
   bif (decide (0≤j))&&(decide (j<(yL.toList.length:Int))) then
   (eS Tryz.prog ah dx [(i.toNat,0)]).bind fun x30=>
   (x30.toList[j.toNat]?).bind fun x31=>
   kn (wrap .i64 (j+1),setRow Tryz.prog (aD x30.toList j (V.int .i64 yK.toInt)) ah dx [(i.toNat,0)])
   else none
  else none
  else none
 else
  kr (j,decide (j<n),dx)
noncomputable def BI (C:af) (n i t87 t88 ss:Int) (aP:LV) (mc me:Int) (mf:Bool) (mg ms:Int) (s9 bd bJ bS b7 fu iq fH eY eZ fa ft e7 fG jD fS:LV):=un fun j dx=>Hf C n i t87 t88 ss aP mc me mf mg ms s9 bd bJ bS b7 fu iq fH eY eZ fa ft e7 fG jD fS j dx (fun y=>some (Sum.inl y)) (fun r=>some (Sum.inr r))
noncomputable def Hg (C:af) (n t87 ss:Int) (aP:LV) (mc me:Int) (mf:Bool) (mg ms:Int) (s9 bd bJ bS b7 fu iq fH eY eZ fa ft e7 fG jD:LV) (t88:Int) (dx fS:LV) {β:Type} (kn:(Int×LV×LV)→Option β) (kr:(Int×Bool×LV×LV)→Option β):Option β:=
 bif decide (t88<t87) then
  aq s9 t88 fun qi=>
  bif decide (0<(fS.length:Int)) then
  (fS[0]?).bind fun uR=>
  bif uR.toBool then
   bif decide (0<(fS.length:Int)) then
   (fS[0]?).bind fun Bm=>
   bif (decide (0≤n))&&((decide (n≤n))&&(Nat.ble ((n.toNat)*8) bm)) then
    aq dx t88 fun rE=>
    aq (aD dx t88 (.list ae (List.replicate (n.toNat) (V.int .i64 0)))) t88 fun qk=>
    (eS Tryz.prog ah (aD dx t88 (.list ae (List.replicate (n.toNat) (V.int .i64 0)))) [(t88.toNat,0)]).bind fun rv=>
    bif decide (0<(rv.toList.length:Int)) then
    (eS Tryz.prog ah (aD dx t88 (.list ae (List.replicate (n.toNat) (V.int .i64 0)))) [(t88.toNat,0)]).bind fun sU=>
    (sU.toList[0]?).bind fun oJ=>
    (Loop (BI C n t88 t87 t88 ss aP mc me mf mg ms s9 bd bJ bS b7 fu iq fH eY eZ fa ft e7 fG jD (fS.set 0 (.bool true))) (1,setRow Tryz.prog (sU.toList.set 0 (V.int .i64 t88)) ah (aD dx t88 (.list ae (List.replicate (n.toNat) (V.int .i64 0)))) [(t88.toNat,0)])).bind (un fun apB=>un fun (MF:Bool) (yn:LV)=>
     kn (wrap .i64 (t88+1),yn,fS.set 0 (.bool true)))
    else none
   else none
   else none
  else
   (C Kf [.list ae qi.toList,V.int .i64 0]).bind fun nL=>
   bif decide (0<(fS.length:Int)) then
   (fS[0]?).bind fun x36=>
   bif (decide (0≤n))&&((decide (n≤n))&&(Nat.ble ((n.toNat)*8) bm)) then
    aq dx t88 fun x37=>
    aq (aD dx t88 (.list ae (List.replicate (n.toNat) (V.int .i64 0)))) t88 fun x38=>
    (eS Tryz.prog ah (aD dx t88 (.list ae (List.replicate (n.toNat) (V.int .i64 0)))) [(t88.toNat,0)]).bind fun x39=>
    bif decide (0<(x39.toList.length:Int)) then
    (eS Tryz.prog ah (aD dx t88 (.list ae (List.replicate (n.toNat) (V.int .i64 0)))) [(t88.toNat,0)]).bind fun x40=>
    (x40.toList[0]?).bind fun Gx=>
    (Loop (BI C n t88 t87 t88 ss aP mc me mf mg ms s9 bd bJ bS b7 fu iq fH eY eZ fa ft e7 fG jD (fS.set 0 (.bool ((V.nth nL 0).toBool)))) (1,setRow Tryz.prog (x40.toList.set 0 (V.int .i64 t88)) ah (aD dx t88 (.list ae (List.replicate (n.toNat) (V.int .i64 0)))) [(t88.toNat,0)])).bind (un fun aul=>un fun (Tt:Bool) (Tu:LV)=>
     kn (wrap .i64 (t88+1),Tu,fS.set 0 (.bool ((V.nth nL 0).toBool))))
    else none
   else none
   else none
  else none
 else
  kr (t88,decide (t88<t87),dx,fS)
noncomputable def M5 (C:af) (n t87 ss:Int) (aP:LV) (mc me:Int) (mf:Bool) (mg ms:Int) (s9 bd bJ bS b7 fu iq fH eY eZ fa ft e7 fG jD:LV):=un fun t88=>un fun dx fS=>Hg C n t87 ss aP mc me mf mg ms s9 bd bJ bS b7 fu iq fH eY eZ fa ft e7 fG jD t88 dx fS (fun y=>some (Sum.inl y)) (fun r=>some (Sum.inr r))
noncomputable def Hh (C:af) (n k' t163 t164 t176 BJ:Int) (aP:LV) (mc me:Int) (mf:Bool) (mg ms ta:Int) (tc:LV) (UR:Int) (yT US b7 fu iq fH eY eZ fa ft dx e7 fG jD fS BK aek:LV) (t177:Int) (pw:LV) {β:Type} (kn:(Int×LV)→Option β) (kr:(Int×Bool×LV)→Option β):Option β:=
 bif decide (t177<t176) then
  aq US t177 fun x51=>
  aq pw k' fun x52=>
  (C Kg [V.int .i64 ta,.list ax tc,V.int .i64 UR,.list ae x51.toList]).bind fun r53=>
  (eS Tryz.prog kh pw [(k'.toNat,0)]).bind fun x54=>
  bif (decide (0≤t177))&&(decide (t177<(x54.toList.length:Int))) then
  (eS Tryz.prog kh pw [(k'.toNat,0)]).bind fun x55=>
  (x55.toList[t177.toNat]?).bind fun x56=>
  kn (wrap .i64 (t177+1),setRow Tryz.prog (aD x55.toList t177 (.bool ((V.nth r53 0).toBool))) kh pw [(k'.toNat,0)])
  else none
 else
  kr (t177,decide (t177<t176),pw)
noncomputable def M6 (C:af) (n k' t163 t164 t176 BJ:Int) (aP:LV) (mc me:Int) (mf:Bool) (mg ms ta:Int) (tc:LV) (UR:Int) (yT US b7 fu iq fH eY eZ fa ft dx e7 fG jD fS BK aek:LV):=un fun t177 pw=>Hh C n k' t163 t164 t176 BJ aP mc me mf mg ms ta tc UR yT US b7 fu iq fH eY eZ fa ft dx e7 fG jD fS BK aek t177 pw (fun y=>some (Sum.inl y)) (fun r=>some (Sum.inr r))
noncomputable def Hi (C:af) (n t163 BJ:Int) (aP:LV) (mc me:Int) (mf:Bool) (mg ms:Int) (yT bJ bS b7 fu iq fH eY eZ fa ft dx e7 fG jD fS BK:LV) (t164:Int) (pw:LV) {β:Type} (kn:(Int×LV)→Option β) (kr:(Int×Bool×LV)→Option β):Option β:=
 bif decide (t164<t163) then
  aq yT t164 fun UT=>
  bif (decide (0≤n))&&((decide (n≤n))&&(Nat.ble ((n.toNat)*1) bm)) then
  aq pw t164 fun x50=>
  (Loop (M6 C n t164 t163 t164 (eY.length:Int) BJ aP mc me mf mg ms ((UT.cell 0).toInt) ((UT.cell 1).toList) ((UT.cell 2).toInt) yT eY bJ bS b7 fu iq fH eZ fa ft dx e7 fG jD fS BK) (0,aD pw t164 (.list ax (List.replicate (n.toNat) (V.bool false))))).bind (un fun amN=>un fun (amO:Bool) (art:LV)=>
   kn (wrap .i64 (t164+1),art))
  else none
 else
  kr (t164,decide (t164<t163),pw)
noncomputable def M7 (C:af) (n t163 BJ:Int) (aP:LV) (mc me:Int) (mf:Bool) (mg ms:Int) (yT bJ bS b7 fu iq fH eY eZ fa ft dx e7 fG jD fS BK:LV):=un fun t164 pw=>Hi C n t163 BJ aP mc me mf mg ms yT bJ bS b7 fu iq fH eY eZ fa ft dx e7 fG jD fS BK t164 pw (fun y=>some (Sum.inl y)) (fun r=>some (Sum.inr r))
noncomputable def Hj (C:af):cx:=br 145 Rh [EQ,H1,EQ,EQ,EQ,EQ,EQ,EQ,EQ,EQ,EQ,EQ,EQ,EQ,EQ,EQ,EQ,EQ,EQ,EQ,EQ,EQ,H1,EQ,EQ,H1] [[1,0,0,3,4,5,6,7,8,9,10,11,12,13,14,15,16,17,18,19,20,21,22,0,24,25,0]] (@Hd C) (br 321 Ri [EQ,EQ,H1,EQ,EQ,EQ,EQ,EQ,EQ,EQ,EQ,EQ,EQ,EQ,EQ,EQ,EQ,EQ,EQ,EQ,EQ,EQ,EQ,EQ,H1,EQ,EQ,EQ,EQ] [[1,2,0,4,5,0,6,7,8,9,10,11,12,13,14,15,16,17,18,19,20,21,22,23,24,0,26,27,28,29]] (@Hf C) (br 225 Rj [EQ,EQ,H1,EQ,EQ,EQ,EQ,EQ,EQ,EQ,EQ,EQ,EQ,EQ,EQ,EQ,EQ,EQ,EQ,EQ,EQ,EQ,H1,EQ,EQ,EQ,H1] [[1,2,0,0,4,5,6,7,8,9,10,11,12,13,14,15,16,17,18,19,20,21,22,0,24,25,26,0]] (@Hg C) (br 481 Rk [EQ,EQ,EQ,EQ,EQ,H1,EQ,EQ,EQ,EQ,EQ,EQ,EQ,H1,EQ,EQ,EQ,EQ,EQ,EQ,EQ,EQ,EQ,EQ,EQ,EQ,EQ,EQ,EQ,EQ,EQ,EQ,EQ,EQ] [[1,2,3,4,5,0,0,7,8,9,10,11,12,13,0,15,16,17,18,19,20,21,22,23,24,25,26,27,28,29,30,31,32,33,34]] (@Hh C) (br 417 Rl [EQ,EQ,H1,EQ,EQ,EQ,EQ,EQ,EQ,EQ,H1,EQ,EQ,EQ,EQ,EQ,EQ,EQ,EQ,EQ,EQ,EQ,EQ,EQ,EQ,EQ,EQ,EQ] [[1,2,0,0,4,5,6,7,8,9,10,0,12,13,14,15,16,17,18,19,20,21,22,23,24,25,26,27,28]] (@Hi C) bA))))
theorem aru (C:af):aZ C (Hj C) 26 (Lp [1,1,1,1,1,1,0,1,0,0] 26):=bq Rh [EQ,H1,EQ,EQ,EQ,EQ,EQ,EQ,EQ,EQ,EQ,EQ,EQ,EQ,EQ,EQ,EQ,EQ,EQ,EQ,EQ,EQ,H1,EQ,EQ,H1] [[1,0,0,3,4,5,6,7,8,9,10,11,12,13,14,15,16,17,18,19,20,21,22,0,24,25,0]] (@Hd C) (aR au)
theorem arv (C:af):aZ C (Hj C) 26 (Lp [1,1,1,1,1,1,1,0,1,0,0,1,1,0,0,1,1,1,1,1,0,0] 26):=bq Ri [EQ,EQ,H1,EQ,EQ,EQ,EQ,EQ,EQ,EQ,EQ,EQ,EQ,EQ,EQ,EQ,EQ,EQ,EQ,EQ,EQ,EQ,EQ,EQ,H1,EQ,EQ,EQ,EQ] [[1,2,0,4,5,0,6,7,8,9,10,11,12,13,14,15,16,17,18,19,20,21,22,23,24,0,26,27,28,29]] (@Hf C) (aR au)
theorem arw (C:af):aZ C (Hj C) 26 (Lp [1,1,1,1,1,1,1,0,1,0,0] 26):=bq Rj [EQ,EQ,H1,EQ,EQ,EQ,EQ,EQ,EQ,EQ,EQ,EQ,EQ,EQ,EQ,EQ,EQ,EQ,EQ,EQ,EQ,EQ,H1,EQ,EQ,EQ,H1] [[1,2,0,0,4,5,6,7,8,9,10,11,12,13,14,15,16,17,18,19,20,21,22,0,24,25,26,0]] (@Hg C) (aR (aY (arv C) au))
theorem arx (C:af):aZ C (Hj C) 26 (Lp [1,1,1,1,1,1,1,1,1,0,1,0,0,1,1,0,0,1,1,1,0,0] 26):=bq Rk [EQ,EQ,EQ,EQ,EQ,H1,EQ,EQ,EQ,EQ,EQ,EQ,EQ,H1,EQ,EQ,EQ,EQ,EQ,EQ,EQ,EQ,EQ,EQ,EQ,EQ,EQ,EQ,EQ,EQ,EQ,EQ,EQ,EQ] [[1,2,3,4,5,0,0,7,8,9,10,11,12,13,0,15,16,17,18,19,20,21,22,23,24,25,26,27,28,29,30,31,32,33,34]] (@Hh C) (aR au)
theorem ary (C:af):aZ C (Hj C) 26 (Lp [1,1,1,1,1,1,1,1,1,0,1,0,0] 26):=bq Rl [EQ,EQ,H1,EQ,EQ,EQ,EQ,EQ,EQ,EQ,H1,EQ,EQ,EQ,EQ,EQ,EQ,EQ,EQ,EQ,EQ,EQ,EQ,EQ,EQ,EQ,EQ,EQ] [[1,2,0,0,4,5,6,7,8,9,10,0,12,13,14,15,16,17,18,19,20,21,22,23,24,25,26,27,28]] (@Hi C) (aR (aY (arx C) au))
noncomputable def Hk (C:af) (ss:Int) (aP aH:LV):Option LV:=
 (C Ke [.list ah aP,.bool true]).bind fun r1=>
 bif (((V.nth (r1.drop 3) 0).toInt):Int) != 0 then
  some [V.int .i64 0,.list ah ([]:LV),.list ch ([]:LV),.list ae ([]:LV),.list ax ([]:LV),.list ax ([]:LV),.list kh ([]:LV),V.int .i64 ((V.nth (r1.drop 3) 0).toInt),V.int .i64 ss,.list ah aP,.list jz aH]
 else
  bif decide (((((V.nth ((r1.drop 4).drop 1) 0).toList).length:Int):Int)>400) then
  some [V.int .i64 0,.list ah ([]:LV),.list ch ([]:LV),.list ae ([]:LV),.list ax ([]:LV),.list ax ([]:LV),.list kh ([]:LV),V.int .i64 3,V.int .i64 ss,.list ah aP,.list jz aH]
  else
  bif (decide (0≤(((V.nth ((r1.drop 4).drop 1) 0).toList).length:Int)))&&((decide ((((V.nth ((r1.drop 4).drop 1) 0).toList).length:Int)≤(((V.nth ((r1.drop 4).drop 1) 0).toList).length:Int)))&&(Nat.ble ((((((V.nth ((r1.drop 4).drop 1) 0).toList).length:Int):Int).toNat)*24) bm)) then
   bif (decide (0≤(((V.nth ((r1.drop 4).drop 1) 0).toList).length:Int)))&&((decide ((((V.nth ((r1.drop 4).drop 1) 0).toList).length:Int)≤(((V.nth ((r1.drop 4).drop 1) 0).toList).length:Int)))&&(Nat.ble ((((((V.nth ((r1.drop 4).drop 1) 0).toList).length:Int):Int).toNat)*16) bm)) then
   bif decide (0<(((V.nth (((((r1.drop 4).drop 1).drop 1).drop 1).drop 1) 0).toList).length:Int)) then
    (((V.nth (((((r1.drop 4).drop 1).drop 1).drop 1).drop 1) 0).toList)[0]?).bind fun x2=>
    bif Nat.ble (x2.toList.length*8) bm then
    bif (decide (0≤(((V.nth ((r1.drop 4).drop 1) 0).toList).length:Int)))&&((decide ((((V.nth ((r1.drop 4).drop 1) 0).toList).length:Int)≤(((V.nth ((r1.drop 4).drop 1) 0).toList).length:Int)))&&(Nat.ble ((((((V.nth ((r1.drop 4).drop 1) 0).toList).length:Int):Int).toNat)*1) bm)) then
     (Loop (He C (((V.nth ((r1.drop 4).drop 1) 0).toList).length:Int) ss aP 0 ((V.nth r1 0).toInt) ((V.nth (r1.drop 1) 0).toBool) ((V.nth ((r1.drop 1).drop 1) 0).toInt) (aP.length:Int) aH ([]:LV) ([]:LV) ([]:LV) ([]:LV) ([]:LV) ((V.nth (r1.drop 4) 0).toList) ((V.nth ((r1.drop 4).drop 1) 0).toList) ((V.nth (((r1.drop 4).drop 1).drop 1) 0).toList) ((V.nth ((((r1.drop 4).drop 1).drop 1).drop 1) 0).toList) ((V.nth (((((r1.drop 4).drop 1).drop 1).drop 1).drop 1) 0).toList) ((V.nth ((((((r1.drop 4).drop 1).drop 1).drop 1).drop 1).drop 1) 0).toList) (List.replicate (((((V.nth ((r1.drop 4).drop 1) 0).toList).length:Int):Int).toNat) (V.list ae ([]:LV))) x2.toList ([]:LV)) (1,List.replicate (((((V.nth ((r1.drop 4).drop 1) 0).toList).length:Int):Int).toNat) (V.str []),List.replicate (((((V.nth ((r1.drop 4).drop 1) 0).toList).length:Int):Int).toNat) (V.bool false))).bind (un fun lh=>un fun (mL:Bool)=>un fun (ph:LV) (yx:LV)=>
      (Loop (M5 C (((V.nth ((r1.drop 4).drop 1) 0).toList).length:Int) (((V.nth (((((r1.drop 4).drop 1).drop 1).drop 1).drop 1) 0).toList).length:Int) ss aP 0 ((V.nth r1 0).toInt) ((V.nth (r1.drop 1) 0).toBool) ((V.nth ((r1.drop 1).drop 1) 0).toInt) (aP.length:Int) ((V.nth (((((r1.drop 4).drop 1).drop 1).drop 1).drop 1) 0).toList) aH ([]:LV) ([]:LV) ([]:LV) ([]:LV) ([]:LV) ((V.nth (r1.drop 4) 0).toList) ((V.nth ((r1.drop 4).drop 1) 0).toList) ((V.nth (((r1.drop 4).drop 1).drop 1) 0).toList) ((V.nth ((((r1.drop 4).drop 1).drop 1).drop 1) 0).toList) ((V.nth ((((((r1.drop 4).drop 1).drop 1).drop 1).drop 1).drop 1) 0).toList) ph x2.toList ([]:LV)) (0,List.replicate (((((V.nth ((r1.drop 4).drop 1) 0).toList).length:Int):Int).toNat) (V.list ae ([]:LV)),yx)).bind (un fun aum=>un fun (aun:Bool)=>un fun (LX:LV) (A5:LV)=>
       bif (decide (0≤(aH.length:Int)))&&((decide ((aH.length:Int)≤(aH.length:Int)))&&(Nat.ble (((aH.length:Int).toNat)*24) bm)) then
       (Loop (M7 C (((V.nth ((r1.drop 4).drop 1) 0).toList).length:Int) (aH.length:Int) ss aP 0 ((V.nth r1 0).toInt) ((V.nth (r1.drop 1) 0).toBool) ((V.nth ((r1.drop 1).drop 1) 0).toInt) (aP.length:Int) aH ([]:LV) ([]:LV) ([]:LV) ([]:LV) ([]:LV) ((V.nth (r1.drop 4) 0).toList) ((V.nth ((r1.drop 4).drop 1) 0).toList) ((V.nth (((r1.drop 4).drop 1).drop 1) 0).toList) ((V.nth ((((r1.drop 4).drop 1).drop 1).drop 1) 0).toList) ((V.nth (((((r1.drop 4).drop 1).drop 1).drop 1).drop 1) 0).toList) ((V.nth ((((((r1.drop 4).drop 1).drop 1).drop 1).drop 1).drop 1) 0).toList) LX ph x2.toList ([]:LV) A5) (0,List.replicate ((aH.length:Int).toNat) (V.list ax ([]:LV)))).bind (un fun auo=>un fun (aup:Bool) (arz:LV)=>
        some [V.int .i64 (aP.length:Int),.list ah LX,.list ch ph,.list ae x2.toList,.list ax ([]:LV),.list ax A5,.list kh arz,V.int .i64 0,V.int .i64 ss,.list ah aP,.list jz aH])
       else none))
    else none
    else none
   else none
   else none
  else none
theorem arA {ss:Int} {aP aH:LV} {r:Option LV} (h:Hk CC ss aP aH=r):CC DX [V.int .i64 ss,.list ah aP,.list jz aH]=r:=bz (aY (aru CC) (aY (arw CC) (aY (ary CC) au))) h
theorem arB {l:List Nat} (hl:l.length≤1000000):CC Kf [.list ae (nS l),.int .i64 0]=some [.bool (decide (0∈l))]:=by
 have key: ∃k:Int,CC Ks [.list ae (nS l),.int .i64 0]=some [.int .i64 k]∧decide (k≥0)=decide (0∈l):=by
  have hL:=alA (step:=M4 CC (nS l) 0 ((nS l).length:Int)) (fun i=>l.getD i 0==0) l.length (fun i=>(i:Int)) (fun i=> .inl (i:Int)) (.inr ((l.length:Int),false)) (fun i hi=> ?_) ?_
  ·rcases hL with ⟨i,hi,hb,_,e⟩|⟨hb,e⟩
   ·refine ⟨(i:Int),aei ?_,?_⟩
    ·unfold UQ;exact bs e rfl
    ·rw[cW (by omega),cW ?_];rw[bC hi,beq_iff_eq] at hb;exact hb▸cJ hi
   ·refine ⟨-1,aei ?_,?_⟩
    ·unfold UQ;exact bs e rfl
    ·rw[cO (by omega),cO fun hm=> ?_];obtain ⟨i,hi,e⟩:=qx hm;have:=hb i hi;rw[bC hi,e] at this;cases this
  ·simp only[M4,Hc];rw[cI];refine bT (cd hi) (bs (gb hi) ?_);by_cases c:l[i]=0
   ·rw[ak (by rw[bC hi,c];rfl)];exact bT (by show ((0:Int)==((l[i]:Nat):Int))=true;rw[c];rfl) rfl
   ·rw[aj (by rw[bC hi];simpa using c)];refine bF (by show ((0:Int)==((l[i]:Nat):Int))=false;rw[u7];omega) ?_;rw[cm (by omega)]
  ·simp only[M4,Hc];rw[cI];refine bF (aV (az _)) ?_;rw[aV (az _)]
 obtain ⟨k,e,h⟩:=key;refine ars ?_;unfold aej;rw[←h];exact bs e rfl
theorem getD_map {l:List Nat} {k:Nat→Nat} {i:Nat} (h:i<l.length):(l.map k).getD i 0=k (l.getD i 0):=by
 rw[bC (by simpa using h),bC h,ze]
theorem UU {n:Nat} {f g k:List Nat} (hf:Tr n f) (hg:Tr n g):comp (comp f g) k=comp f (comp g k):=by
 unfold comp;rw[pH];exact mo fun i hi=>(getD_map (k:=fun i=>k.getD i 0) (by rw[hg.1];exact hf.2 i hi)).symm
theorem comp_id {n:Nat} {f:List Nat} (hf:Tr n f):comp f (List.range n)=f:=by
 refine tj (by simp[comp]) fun i h1 h2=> ?_;have:=hf.at h2;simp[comp,this]
def dz (S:List (List Nat)) (i j:Nat):Nat:=cN S (comp (S.getD i []) (S.getD j []))
def rH (S:List (List Nat)) (i j:Nat):LV:=tab S.length fun b=>if b<j then nV (dz S i b) else V.int .i64 0
def py (S:List (List Nat)) (i j:Nat):LV:=tab S.length fun a=>if a<i then .list ae (rH S a S.length) else if a=i then .list ae (rH S i j) else .list ae []
def qp (S:List (List Nat)) (i:Nat):LV:=tab S.length fun a=>if a<i then .list ae (rH S a S.length) else .list ae []
def yU (L:Nat) (g:Nat→List Nat) (S:List (List Nat)) (i:Nat):Bool:=decide (∃a,a<i∧0∈eL L g S (S.getD a []))
def jG (L:Nat) (g:Nat→List Nat) (S:List (List Nat)) (i:Nat):LV:=tab S.length fun j=> .bool (if j=0 then yU L g S i else true)
def UW (n:Nat):Prop:= ∃T:List (List Nat),T.Nodup∧(∀f∈T,Tr n f)∧400<T.length
section
variable {L n:Nat} {g:Nat→List Nat} {S:List (List Nat)} {P K:List Int} {R:List (List Nat)} {W:List (List UInt8)} {B:List Int} {s:List Nat}
theorem ko.row (h:ko L n S.length g S P K R W B s):R=S.map (eL L g S):=by rw[h.rr,u6]
theorem ko.M8 (h:ko L n S.length g S P K R W B s) {i:Nat} (hi:i<S.length):(sV R)[i]? =some (tV (eL L g S (S.getD i []))):=by
 rw[h.row];simp[sV,hi]
theorem ko.cl' (h:ko L n S.length g S P K R W B s) {f:List Nat} (hf:f∈S) {x:Nat} (hx:x<L):bn g f x∈S:=h.cl f (by rw[u6];exact hf) x hx
theorem ko.word (h:ko L n S.length g S P K R W B s): ∀{i:Nat},i<S.length→∃w,WL L w∧S.getD i []=w.foldl (bn g) (List.range n):=by
 intro i
 induction i using Nat.strongRecOn with
 | ind i ih=>
  intro hi;rcases BY i with rfl|h0
  ·refine ⟨[],WL.nil,?_⟩;have:=h.I.id;cases S with
   | nil=>cases this
   | cons a S=>exact dA this
  ·obtain ⟨p,x,_,_,hp,hx,e⟩:=h.I.p i h0 hi;obtain ⟨w,hw,e2⟩:=ih p hp (by omega);refine ⟨w++[x],WL.app.2 ⟨hw,WL.nil.cons hx⟩,?_⟩;rw[zc,←e2,e];rfl
theorem ko.ael (h:ko L n S.length g S P K R W B s) (hg: ∀x,x<L→Tr n (g x)) {f:List Nat} (hf:f∈S): ∀{j:Nat},j<S.length→comp f (S.getD j [])∈S:=by
 intro j hj
 induction j using Nat.strongRecOn with
 | ind j ih=>
  rcases BY j with rfl|h0
  ·have:S.getD 0 []=List.range n:=by
    have:=h.I.id;cases S with
    | nil=>cases this
    | cons a S=>exact dA this
   rw[this,comp_id (h.I.tr f hf)];exact hf
  ·obtain ⟨p,x,_,_,hp,hx,e⟩:=h.I.p j h0 hj;have dW:p<S.length:=by omega
   have UX:Tr n (S.getD p []):=by rw[bC dW];exact h.I.tr _ (cJ dW)
   rw[e,←UU (h.I.tr f hf) UX];exact h.cl' (ih p hp dW) hx
theorem ko.arC (h:ko L n S.length g S P K R W B s) (hg: ∀x,x<L→Tr n (g x)) {i j:Nat} (hi:i<S.length) (hj:j<S.length):dz S i j<S.length:=
 km (h.ael hg (by rw[bC hi];exact cJ hi) hj)
section
variable (h:ko L n S.length g S P K R W B s) (hg: ∀x,x<L→Tr n (g x))
include h hg
theorem aem {i:Nat} (hi:i<S.length) {k1 k2 k3 k4 k5 k6 k7:Int} {k8:Bool} {l1 l2 l3 l4 l5 l6 l7 l8 l9 l10 l11 l12 l13 l14:LV}:
  Loop (BI CC (S.length:Int) (i:Int) k1 k2 k3 l1 k4 k5 k8 k6 k7 (sV R) l2 l3 l4 l5 l6 l7 l8 l9 (iL P) (iL K) l10 l11 l12 l13 l14) (1,py S i 1)=some ((S.length:Int),false,py S i S.length):=by
 have hlen:=h.I.len;have oV: ∀{j:Nat},(py S i j)[i]? =some (.list ae (rH S i j)):=fun {j}=>by unfold py;rw[lf hi,bN,bt]
 have hl: ∀{j:Nat},(rH S i j).length=S.length:=fun {j}=>eC;have n8: ∀{j:Nat},j<S.length→(py S i j).set i (.list ae ((rH S i j).set j (nV (dz S i j))))=py S i (j+1):=fun {j} hj=>by
  unfold py rH;rw[iG,iG];refine cG fun a _=> ?_;by_cases c:a=i
  ·subst c;rw[bt,bN,bt];refine congrArg _ (cG fun b _=> ?_);by_cases c2:b=j
   ·rw[ak c2,bt,c2]
   ·rw[aj c2];by_cases c3:b<j
    ·rw[ak c3,bt]
    ·rw[aj c3,bN]
  ·rw[aj c];by_cases c2:a<i
   ·rw[ak c2,ak c2]
   ·rw[aj c2,aj c,aj c2,aj c]
 have hfi:Tr n (S.getD i []):=by rw[bC hi];exact h.I.tr _ (cJ hi)
 have key:=sJ (step:=BI CC (S.length:Int) (i:Int) k1 k2 k3 l1 k4 k5 k8 k6 k7 (sV R) l2 l3 l4 l5 l6 l7 l8 l9 (iL P) (iL K) l10 l11 l12 l13 l14) (fun j x=>x=((j:Int),py S i j)) (fun r=>r=((S.length:Int),false,py S i S.length)) (S.length-1) 1 (1,py S i 1) (fun j h1 hj x hx=> ?_) (fun x hx=> ?_) rfl
 ·obtain ⟨r,e,rfl⟩:=key;exact e
 ·subst hx;have hj:j<S.length:=by omega
  obtain ⟨p,x,eP,eK,hp,hx,e⟩:=h.I.p j (by omega) hj;have dW:p<S.length:=by omega
  have UX:Tr n (S.getD p []):=by rw[bC dW];exact h.I.tr _ (cJ dW)
  have hm:=h.arC hg hi dW;have hmm:S.getD (dz S i p) []=comp (S.getD i []) (S.getD p []):=by
   rw[bC hm];exact Fo (h.ael hg (by rw[bC hi];exact cJ hi) dW)
  have hv:(eL L g S (S.getD (dz S i p) [])).getD x 0=dz S i j:=by
   unfold eL;rw[getD_map (by rw[jL];exact hx),bC (l:=List.range L) (by rw[jL];exact hx),HY,hmm];unfold dz bn;rw[UU hfi UX,←e]
  have hrl:(eL L g S (S.getD (dz S i p) [])).length=L:=by simp[eL]
  refine ⟨_,?_,rfl⟩;simp only[BI,Hf,un,aq,aD,Int.toNat_natCast];have g1:(rH S i j)[p]? =some (nV (dz S i p)):=by unfold rH;rw[lf dW,ak hp]
  have g2:(rH S i j)[j]? =some (.int .i64 0):=by unfold rH;rw[lf hj,bN]
  refine bT (cd hj) ((cw oV).trans ((cw oV).trans ((cw (sQ (by rw[h.I.lP];exact hj))).trans (bs (oK oV) ?_))));rw[eP,V.eh];refine bT (nz (by rw[hl];exact dW)) (bs (oK oV) ?_);rw[V.eh,show (V.int IntKind.i64 (p:Int)).toInt.toNat=p from rfl];refine bs g1 (bT (nz (by rw[wq,h.row,cU];exact hm)) (bs (by rw[show (nV (dz S i p)).toInt.toNat=dz S i p from rfl];exact h.M8 hm) ((cw (sQ (by rw[h.I.lK];exact hj))).trans ?_)));rw[eK,pg];refine bs (gb (i:=x) (by rw[hrl];exact hx)) (bs (oK oV) ?_);rw[V.eh];refine bT (nz (by rw[hl];exact hj)) (bs (oK oV) ?_);rw[V.eh];refine bs g2 ?_;have lD:(eL L g S (S.getD (dz S i p) []))[x]'(by rw[hrl];exact hx)=dz S i j:=(bC (d:=0) _).symm.trans hv;rw[Mr oV,cm (by omega),←n8 hj,lD];rfl
 ·subst hx;have e1:1+(S.length-1)=S.length:=by have:=h.I.pos;omega
  rw[e1];refine ⟨_,?_,rfl⟩;simp only[BI,Hf,un];refine bF (aV (az _)) ?_;rw[aV (az _)]
end
end
section
variable {L n:Nat} {g:Nat→List Nat} {S:List (List Nat)} {P K:List Int} {R:List (List Nat)} {W:List (List UInt8)} {B:List Int} {s:List Nat}
section
variable (h:ko L n S.length g S P K R W B s) (hg: ∀x,x<L→Tr n (g x))
include h
theorem ko.BL:S.getD 0 []=List.range n:=by
 have:=h.I.id;cases S with
 | nil=>cases this
 | cons a S=>exact dA this
theorem mul_zero {i:Nat} (hi:i<S.length):dz S i 0=i:=by
 unfold dz;have:=h.I.tr _ (cJ hi);rw[h.BL,bC hi,comp_id this];exact A3 h.I.nd hi
theorem arD {k1 k2 k3 k4 k5:Int} {k8:Bool} {l1 l2 l3 l4 l5 l6 l7 l8 l9 l10 l11 l12 l13 l14:LV}: ∃f:Nat→List UInt8,
  Loop (He CC (S.length:Int) k1 l1 k2 k3 k8 k4 k5 l2 l3 l4 l5 l6 l7 l8 l9 (iL P) (iL K) l10 l11 l12 l13 l14) (1,List.replicate S.length (V.str []),List.replicate S.length (V.bool false))=some ((S.length:Int),false,tab S.length fun j=> .str (f j),jG L g S 0):=by
 have hlen:=h.I.len;have key:=sJ (step:=He CC (S.length:Int) k1 l1 k2 k3 k8 k4 k5 l2 l3 l4 l5 l6 l7 l8 l9 (iL P) (iL K) l10 l11 l12 l13 l14)
  (fun i x=> ∃f:Nat→List UInt8,x=((i:Int),(tab S.length fun j=>V.str (f j)),tab S.length fun j=>V.bool (decide (0<j∧j<i)))∧∀j,(f j).length≤j)
  (fun r=> ∃f:Nat→List UInt8,r=((S.length:Int),false,(tab S.length fun j=>V.str (f j)),jG L g S 0)) (S.length-1) 1
  (1,List.replicate S.length (V.str []),List.replicate S.length (V.bool false)) (fun i h1 hi x hx=> ?_) (fun x hx=> ?_) ⟨fun _=>[],?_,fun j=>by simp⟩
 ·obtain ⟨r,e,f,rfl⟩:=key;exact ⟨f,e⟩
 ·obtain ⟨f,rfl,hf⟩:=hx;have ca:i<S.length:=by omega
  obtain ⟨p,x,eP,eK,hp,hx,_⟩:=h.I.p i (by omega) ca;have dW:p<S.length:=by omega
  have hfp:=hf p;simp only[He,Hd,un,aq,aD];refine ⟨_,bT (cd ca) ((cw (sQ (by rw[h.I.lP];exact ca))).trans ?_),fun j=>if j=i then f p++lz [V.int .u8 (wrap .u8 (wrap .i64 (97+(x:Int))))] else f j,rfl,fun j=> ?_⟩
  ·rw[eP];refine bT (nz (by simpa using dW)) (bs (by rw[show (V.int IntKind.i64 (p:Int)).toInt.toNat=p from rfl];exact lf dW) ((cw (sQ (by rw[h.I.lK];exact ca))).trans ?_));rw[eK];refine bT (zb ?_) ((rn (by simpa using ca)).trans ((rn (by simpa using ca)).trans ?_))
   ·show (f p).length+1≤pK;unfold pK;omega
   ·rw[cm (by omega),Int.toNat_natCast,iG,iG];refine congrArg (fun t=>some (Sum.inl t)) (ji rfl (ji (cG fun j _=> ?_) (cG fun j _=> ?_)))
    ·dsimp only;by_cases c:j=i
     ·rw[ak c,ak c];rfl
     ·rw[aj c,aj c]
    ·by_cases c:j=i
     ·rw[ak c,cW (by omega)]
     ·rw[aj c];by_cases c2:0<j∧j<i
      ·rw[cW c2,cW (by omega)]
      ·rw[cO c2,cO (by omega)]
  ·dsimp only;by_cases c:j=i
   ·rw[ak c,gD];show _+1≤j;omega
   ·rw[aj c];exact hf j
 ·obtain ⟨f,rfl,hf⟩:=hx;have e1:1+(S.length-1)=S.length:=by have:=h.I.pos;omega
  rw[e1];simp only[He,Hd,un];refine ⟨_,bF (aV (az _)) rfl,f,?_⟩;rw[aV (az _)];refine ji rfl (ji rfl (ji rfl (cG fun j hj=> ?_)));by_cases c:j=0
  ·rw[ak c,cO (by omega)];exact congrArg V.bool (cO (by rintro ⟨a,ha,_⟩;omega)).symm
  ·rw[aj c,cW (by omega)]
 ·rw[mM,mM];refine ji rfl (ji rfl (cG fun j _=> ?_));rw[cO (by omega)]
include hg
theorem arE (hL:L≤6) {k1 k2 k3 k4 k5:Int} {k8:Bool} {l1 l2 l3 l4 l5 l6 l7 l8 l9 l10 l11 l12 l13:LV}:
  Loop (M5 CC (S.length:Int) (S.length:Int) k1 l1 k2 k3 k8 k4 k5 (sV R) l2 l3 l4 l5 l6 l7 l8 l9 (iL P) (iL K) l10 l11 l12 l13) (0,List.replicate S.length (V.list ae ([]:LV)),jG L g S 0)=some ((S.length:Int),false,qp S S.length,jG L g S S.length):=by
 have hlen:=h.I.len;have gL:=h.I.pos;rw[show List.replicate S.length (V.list ae ([]:LV))=qp S 0 from by rw[mM];exact cG fun j _=>by rw[bN]];refine dR S.length (fun i=>((i:Int),qp S i,jG L g S i)) _ (fun i hi=> ?_) ?_
 ·have hl:(jG L g S i).length=S.length:=eC;have hy:(qp S i).length=S.length:=eC;have e0:(jG L g S i)[0]? =some (.bool (yU L g S i)):=lf gL;have hz:((qp S i).set i (V.list ae (List.replicate S.length (V.int .i64 0))))[i]? =some (V.list ae (List.replicate S.length (V.int .i64 0))):=by
   rw[qw (by rw[hy];exact hi)]
  have mE:setRow Tryz.prog ((List.replicate S.length (V.int .i64 0)).set 0 (V.int .i64 (i:Int))) ah ((qp S i).set i (V.list ae (List.replicate S.length (V.int .i64 0)))) [(i,0)]=py S i 1:=by
   rw[Mr hz,List.set_set];unfold qp py;rw[iG];refine cG fun a _=> ?_;by_cases c:a=i
   ·subst c;rw[bt,bN,bt,mM,iG];refine congrArg _ (cG fun b _=> ?_);by_cases c2:b=0
    ·rw[ak c2,bt,c2,mul_zero h hi];rfl
    ·rw[aj c2,bN]
   ·rw[aj c];by_cases c2:a<i
    ·rw[ak c2,ak c2]
    ·rw[aj c2,aj c2,aj c]
  have js:py S i S.length=qp S (i+1):=cG fun a _=>by
   by_cases c:a=i
   ·subst c;rw[bN,bt,bt]
   ·by_cases c2:a<i
    ·rw[bt,bt]
    ·rw[bN,aj c,bN]
  have dW: ∀c:Bool,c=yU L g S (i+1)→(jG L g S i).set 0 (.bool c)=jG L g S (i+1):=fun c hc=>by
   unfold jG;rw[iG];refine cG fun j _=> ?_;by_cases c2:j=0
   ·rw[ak c2,ak c2,hc]
   ·rw[aj c2,aj c2,aj c2]
  have M9:yU L g S (i+1)=(yU L g S i||decide (0∈eL L g S (S.getD i []))):=by
   unfold yU;rw[wO,B7,B9,B9,B9];constructor
   ·rintro ⟨a,ha,hm⟩;rcases gr a i with c|c
    ·exact .inl ⟨a,c,hm⟩
    ·exact .inr (by rw[show i=a by omega];exact hm)
   ·rintro (⟨a,ha,hm⟩|hm)
    ·exact ⟨a,by omega,hm⟩
    ·exact ⟨i,by omega,hm⟩
  simp only[M5,Hg,un,aq,aD,Int.toNat_natCast];have BM: ∀{l:LV},l.length=S.length→decide (0<(l.length:Int))=true:=fun {l} hl=>cW (by omega);have BN:(decide (0≤(S.length:Int))&&(decide ((S.length:Int)≤(S.length:Int))&&(S.length*8).ble bm))=true:=by
   have:=ga (n:=S.length) (m:=8) (by omega) (by omega);rwa [Int.toNat_natCast] at this
  have Jy:(qp S i)[i]? =some (.list ae []):=by unfold qp;rw[lf hi,bN]
  have UH:(((qp S i).set i (V.list ae (List.replicate S.length (V.int .i64 0)))).length)=S.length:=by rw[ti,hy]
  have hz0:(List.replicate S.length (V.int .i64 0))[0]? =some (.int .i64 0):=by rw[HM,ak gL]
  cases hb:yU L g S i with
  | true=>
   rw[hb] at e0 M9;refine bT (cd hi) ((cw (h.M8 hi)).trans (bT (BM hl) (bs e0 (bT rfl (bT (BM hl) (bs e0 (bT BN ((cw Jy).trans ((cw hz).trans (bs (oK hz) ?_))))))))));rw[V.eh];refine bT (BM (by simp)) (bs (oK hz) ?_);rw[V.eh];refine bs hz0 ?_;rw[mE];refine bs (aem h hg hi) ?_;rw[dW true (by rw[M9];rfl),js,cm (by omega)];rfl
  | false=>
   rw[hb] at e0 M9;have hC:=arB (l:=eL L g S (S.getD i [])) (by rw[eL,cU,jL];omega);refine bT (cd hi) ((cw (h.M8 hi)).trans (bT (BM hl) (bs e0 (bF rfl (bs (by rw[pg];exact hC) (bT (BM hl) (bs e0 (bT BN ((cw Jy).trans ((cw hz).trans (bs (oK hz) ?_)))))))))));rw[V.eh];refine bT (BM (by simp)) (bs (oK hz) ?_);rw[V.eh];refine bs hz0 ?_;rw[mE];refine bs (aem h hg hi) ?_;rw[js,cm (by omega)];show some (Sum.inl (_,_,(jG L g S i).set 0 (V.bool (decide (0∈eL L g S (S.getD i []))))))=_;rw[dW _ (by rw[M9];rfl)]
 ·simp only[M5,Hg,un];refine bF (aV (az _)) ?_;rw[aV (az _)]
end
end
theorem arF {n q:Nat} {f:Nat→V} {z v:V} (hv:v=f q):(tab n fun j=>if j<q then f j else z).set q v=tab n fun j=>if j<q+1 then f j else z:=by
 rw[hv,iG];refine cG fun j _=> ?_;by_cases hj:j=q
 ·rw[ak hj,bt,hj]
 ·rw[aj hj];by_cases dg:j<q
  ·rw[ak dg,bt]
  ·rw[aj dg,bN]
theorem arG {n:Nat} {f:Nat→V} {z:V}:(tab n fun j=>if j<n then f j else z)=tab n f:=cG fun j hj=>ak hj
def UY (m:Da) (e:Int):List V:=[.int .i64 (m.L:Int),.int .i64 (m.st:Int),.int .i64 e,.list ax m.dH,.list ah m.dX]
end Go.AM
set_option maxRecDepth 100000
namespace Go.AM
open Go.IntKind (wrap)
open Go.Proofs
namespace Da
def Hl (a:Da) (k q:Nat):Prop:= ∃w,WL a.L w∧w.length≤k∧a.acc q w=true
def Live (a:Da) (q:Nat):Prop:= ∃w,WL a.L w∧a.acc q w=true
open Classical in
noncomputable def NM (a:Da) (q:Nat):Bool:=decide (a.Live q)
theorem Hl.live {a:Da} {k q:Nat} (h:a.Hl k q):a.Live q:=by obtain ⟨w,h1,_,h3⟩:=h;exact ⟨w,h1,h3⟩
theorem Hl.mono {a:Da} {k m q:Nat} (h:a.Hl k q) (hk:k≤m):a.Hl m q:=by obtain ⟨w,h1,h2,h3⟩:=h;exact ⟨w,h1,by omega,h3⟩
end Da
def upd (r:Nat→Bool) (p:Nat) (b:Bool) (q:Nat):Bool:=if q=p then b else r q
structure LvI (a:Da) (r0 r:Nat→Bool) (c:Bool):Prop where
 good: ∀q,q<a.n→r q=true→a.Live q
 up: ∀q,q<a.n→r0 q=true→r q=true
 yes:c=true→∃q,q<a.n∧r0 q=false∧r q=true
 no:c=false→∀q,q<a.n→r q=r0 q
section
variable {a:Da} (h:a.Ok)
include h
end
section
variable {a:Da} (h:a.Ok)
include h
end
end Go.AM
set_option maxRecDepth 100000
namespace Go.AM
open Go.IntKind (wrap)
open Go.Proofs
noncomputable def aen (C:af) (bV cb:Int) (bG bZ:LV):Option LV:=
 (C sC [V.int .i64 bV,V.int .i64 cb,.list ax bG,.list ah bZ]).bind fun r1=>
 bif (((V.nth r1 0).toInt):Int) != 0 then
  some [V.int .i64 0,V.int .i64 0,V.int .i64 ((V.nth r1 0).toInt),.list ax ([]:LV),.list ah ([]:LV)]
 else
  (C uu [V.int .i64 bV,V.int .i64 cb,.list ax bG,.list ah bZ]).bind fun r2=>
  some [V.int .i64 ((V.nth r2 0).toInt),V.int .i64 ((V.nth (r2.drop 1) 0).toInt),V.int .i64 0,.list ax ((V.nth (r2.drop 2) 0).toList),.list ah ((V.nth ((r2.drop 2).drop 1) 0).toList)]
theorem arH {bV cb:Int} {bG bZ:LV} {r:Option LV} (h:aen CC bV cb bG bZ=r):CC J6 [V.int .i64 bV,V.int .i64 cb,.list ax bG,.list ah bZ]=r:=bz (L:=bA) au h
theorem qq {a:Da} (h:a.Ok):(minD a).Ok:=(uN h).ok
theorem qs {a:Da} (h:a.Ok):(minD a).L=a.L:=(uN h).hL
theorem aeo {a:Da} (h:a.Ok):(minD a).st=0:=(uN h).st
theorem Na {a:Da} (h:a.Ok) {w:List Nat} (hw:WL a.L w):(minD a).acc (minD a).st w=a.acc a.st w:=by
 rw[aeo h];exact (uN h).AU w hw
theorem aep {a b:Da} (ha:a.Ok) (hb:b.Ok) (hL:a.L=b.L) (hl: ∀w,WL a.L w→a.acc a.st w=b.acc b.st w):minD a=minD b:=
 acQ hb (hL▸Canon.congr (uN ha) hl)
theorem aeq {a:Da} (ha:a.Ok):minD (minD a)=minD a:=
 aep (qq ha) ha (qs ha) fun w hw=>Na ha (by rwa [qs ha] at hw)
theorem arI {a:Da} (h:a.Ok):CC J6 (fA a)=some (UY (minD a) 0):=by
 refine arH ?_;unfold aen;refine bs (uI h) (bF rfl ?_);refine bs (Be h) ?_;rfl
noncomputable def yV (C:af) (bV cb:Int) (bG bZ:LV):Option LV:=
 (C sC [V.int .i64 bV,V.int .i64 cb,.list ax bG,.list ah bZ]).bind fun r1=>
 bif (((V.nth r1 0).toInt):Int) != 0 then
  some [V.int .i64 0,.list ah ([]:LV),.list ch ([]:LV),.list ae ([]:LV),.list ax ([]:LV),.list ax ([]:LV),V.int .i64 ((V.nth r1 0).toInt)]
 else
  (C uu [V.int .i64 bV,V.int .i64 cb,.list ax bG,.list ah bZ]).bind fun r2=>
  (C J8 [V.int .i64 ((V.nth r2 0).toInt),V.int .i64 ((V.nth (r2.drop 1) 0).toInt),.list ax ((V.nth (r2.drop 2) 0).toList),.list ah ((V.nth ((r2.drop 2).drop 1) 0).toList),V.int .i64 0]).bind fun r3=>
  bif (((V.nth r3 0).toInt):Int) != 0 then
  some [V.int .i64 0,.list ah ([]:LV),.list ch ([]:LV),.list ae ([]:LV),.list ax ([]:LV),.list ax ([]:LV),V.int .i64 ((V.nth r3 0).toInt)]
  else
  (C DX [V.int .i64 ((V.nth (r3.drop 1) 0).toInt),.list ah ((V.nth ((r3.drop 1).drop 1) 0).toList),.list jz ((V.nth (((r3.drop 1).drop 1).drop 1) 0).toList)]).bind fun r4=>
  bif (((V.nth ((r4.drop 6).drop 1) 0).toInt):Int) != 0 then
   some [V.int .i64 0,.list ah ([]:LV),.list ch ([]:LV),.list ae ([]:LV),.list ax ([]:LV),.list ax ([]:LV),V.int .i64 ((V.nth ((r4.drop 6).drop 1) 0).toInt)]
  else
   (((V.nth (r4.drop 6) 0).toList)[0]?).bind fun x5=>
   some [V.int .i64 ((V.nth r4 0).toInt),.list ah ((V.nth (r4.drop 1) 0).toList),.list ch ((V.nth ((r4.drop 1).drop 1) 0).toList),.list ae ((V.nth (((r4.drop 1).drop 1).drop 1) 0).toList),.list ax x5.toList,.list ax ((V.nth (((((r4.drop 1).drop 1).drop 1).drop 1).drop 1) 0).toList),V.int .i64 0]
theorem UZ {bV cb:Int} {bG bZ:LV} {r:Option LV} (h:yV CC bV cb bG bZ=r):CC ou [V.int .i64 bV,V.int .i64 cb,.list ax bG,.list ah bZ]=r:=bz (L:=bA) au h
structure td (m:Da) (S:List (List Nat)):Prop where
 tr: ∀f∈S,Tr m.n f
 nd:S.Nodup
 BL:S.getD 0 []=List.range m.n
 pos:0<S.length
 cl: ∀f∈S,∀x,x<m.L→bn m.gT f x∈S
 re: ∀i,i<S.length→∃w,WL m.L w∧S.getD i []=w.foldl (bn m.gT) (List.range m.n)
 le:S.length≤400
def ky (S:List (List Nat)):LV:=tab S.length fun i=> .list ae (tab S.length fun j=>nV (dz S i j))
def iM (m:Da) (S:List (List Nat)):LV:=nS (eL m.L m.gT S (List.range m.n))
def mh (m:Da) (S:List (List Nat)):LV:=tab S.length fun i=> .bool (m.fin ((S.getD i []).getD m.st 0))
def qt (m:Da) (S:List (List Nat)) (f:Nat→List UInt8):List V:=
 [.int .i64 (m.L:Int),.list ah (ky S),.list ch (tab S.length fun j=> .str (f j)),.list ae (iM m S),.list ax (mh m S),.list ax (jG m.L m.gT S S.length)]
def syZ (e:Int):List V:=[.int .i64 0,.list ah [],.list ch [],.list ae [],.list ax [],.list ax [],.int .i64 e]
theorem arJ {S:List (List Nat)}:qp S S.length=ky S:=cG fun i hi=>by
 rw[ak hi];exact congrArg _ (cG fun j hj=>ak hj)
section
variable {m:Da} (h:m.Ok) (nB:m.n≤32)
include h nB
theorem arK {S:List (List Nat)} (hS: ∀f∈S,Tr m.n f) (hl:S.length≤400) {k1 k2 k3 k4 k5 k6 k7 k8:Int} {k9:Bool} {l1 l2 l3 l4 l5 l6 l7 l8 l9 l10 l11 l12 l13 l14 Nb Nc l17:LV}:
  Loop (M6 CC k1 0 k2 k3 (S.length:Int) k4 l1 k5 k6 k9 k7 k8 (m.st:Int) m.dH 0 l2 (sV S) l3 l4 l5 l6 l7 l8 l9 l10 l11 l12 l13 l14 Nb Nc l17) (0,[V.list ax (List.replicate S.length (V.bool false))])=some ((S.length:Int),false,[V.list ax (mh m S)]):=by
 refine sP (fun i a=>((i:Int),[V.list ax a])) S.length (fun i=> .bool (m.fin ((S.getD i []).getD m.st 0))) _ (by simp) (fun a=>((S.length:Int),false,[V.list ax a])) (fun i hi a ha=> ?_) ?_
 ·simp only[M6,Hh,un,aq,aD];have e0:([V.list ax a]:LV)[0]? =some (.list ax a):=rfl;refine bT (cd hi) ((cw (Fp hi)).trans ((cw (i:=0) e0).trans (bs (by rw[pg];exact aoe h nB (hS _ (cJ hi))) (bs (acZ e0) ?_))));rw[V.eh];refine bT (nz (by rw[ha];exact hi)) (bs (acZ e0) ?_);rw[V.eh,Int.toNat_natCast];refine bs (bR (by rw[ha];exact hi)) ?_;rw[cm (by omega),bC hi];exact congrArg (fun t=>some (Sum.inl (((i+1:Nat):Int),t))) (aob e0)
 ·simp only[M6,Hh,un];refine bF (aV (az _)) ?_;rw[aV (az _)]
theorem arL: ∃r,CC DX [.int .i64 (m.n:Int),.list ah (gV m.L m.gT),.list jz (ry m)]=some r∧
  ((r=[.int .i64 0,.list ah [],.list ch [],.list ae [],.list ax [],.list ax [],.list kh [],.int .i64 3,.int .i64 (m.n:Int),.list ah (gV m.L m.gT),.list jz (ry m)]∧UW m.n)∨
   ∃S,∃f:Nat→List UInt8,r=[.int .i64 (m.L:Int),.list ah (ky S),.list ch (tab S.length fun j=> .str (f j)),.list ae (iM m S),.list ax [],.list ax (jG m.L m.gT S S.length),.list kh [.list ax (mh m S)],.int .i64 0,.int .i64 (m.n:Int),.list ah (gV m.L m.gT),.list jz (ry m)]∧td m S):=by
 have hs:=h.s;have hL:=h.l6;have hg: ∀x,x<m.L→Tr m.n (m.gT x):=fun x hx=>h.gT hx;obtain ⟨r,e1,h1⟩:=anp (n:=m.n) (by omega) nB hg h.l1 h.l6;have fin: ∀z,Hk CC (m.n:Int) (gV m.L m.gT) (ry m)=z→CC DX [.int .i64 (m.n:Int),.list ah (gV m.L m.gT),.list jz (ry m)]=z:=fun z h=>arA h;rcases h1 with ⟨rfl,T,t1,t2,t3⟩|⟨S,P,K,R,W,B,s,U,rfl,hE⟩
 ·refine ⟨_,fin _ ?_,.inl ⟨rfl,T,t1,t2,by omega⟩⟩;unfold Hk;exact bs e1 (bT rfl rfl)
 ·rcases gr 400 S.length with c|c
  ·refine ⟨_,fin _ ?_,.inl ⟨rfl,S,hE.I.nd,hE.I.tr,c⟩⟩;unfold Hk;exact bs e1 (bF rfl (bT (by show decide ((((sV S).length:Nat):Int)>400)=true;rw[wq];exact cW (by omega)) rfl))
  ·have gL:=hE.I.pos;obtain ⟨f,e2⟩:=arD (L:=m.L) (g:=m.gT) hE (k1:=(m.n:Int)) (k2:=0) (k3:=(m.n:Int)) (k4:=(S.length:Int)) (k5:=((gV m.L m.gT).length:Int)) (k8:=true) (l1:=gV m.L m.gT) (l2:=ry m) (l3:=[]) (l4:=[]) (l5:=[]) (l6:=[]) (l7:=[]) (l8:=gV m.L m.gT) (l9:=sV S) (l10:=sV R) (l11:=U) (l12:=List.replicate S.length (V.list ae [])) (l13:=iM m S) (l14:=[]);refine ⟨_,fin _ ?_,.inr ⟨S,f,rfl,hE.I.tr,hE.I.nd,hE.BL,gL,fun f hf x hx=>hE.cl' hf hx,fun i hi=>hE.word hi,c⟩⟩;unfold Hk;refine bs e1 (bF rfl (bF (by show decide ((((sV S).length:Nat):Int)>400)=false;rw[wq];exact cO (by omega)) ?_));have js:(sV R)[0]? =some (tV (eL m.L m.gT S (List.range m.n))):=by rw[hE.M8 gL,hE.BL]
   have hRl:(sV R).length=S.length:=by rw[wq,hE.row,cU]
   have e3:=arE hE hg hL (k1:=(m.n:Int)) (k2:=0) (k3:=(m.n:Int)) (k4:=(S.length:Int)) (k5:=((gV m.L m.gT).length:Int)) (k8:=true) (l1:=gV m.L m.gT) (l2:=ry m) (l3:=[]) (l4:=[]) (l5:=[]) (l6:=[]) (l7:=[]) (l8:=gV m.L m.gT) (l9:=sV S) (l10:=U) (l11:=tab S.length fun j=> .str (f j)) (l12:=iM m S) (l13:=[]);have e4: ∀{k1 k2 k3 k4 k5:Int} {k8:Bool} {l1 l2 l3 l4 l5 l6 l7 l8 l9 l10 l11 l12 l13 l14 Nb Nc:LV},Loop (M7 CC (S.length:Int) 1 k1 l1 k2 k3 k8 k4 k5 (ry m) l2 l3 l4 l5 l6 l7 (sV S) l8 l9 l10 l11 l12 l13 l14 Nb Nc) (0,[V.list ax []])=some (1,false,[V.list ax (mh m S)]):=by
    intro k1 k2 k3 k4 k5 k8 l1 l2 l3 l4 l5 l6 l7 l8 l9 l10 l11 l12 l13 l14 Nb Nc;refine dR 1 (fun i=>((i:Int),if i=0 then [V.list ax []] else [V.list ax (mh m S)])) _ (fun i hi=> ?_) ?_
    ·obtain rfl:i=0:=by omega
     simp only[M7,Hi,un,aq,aD];refine bT rfl ((cw (es:=ry m) (i:=0) rfl).trans (bT (ga (by omega) (by omega)) ((cw (i:=0) (v:= .list ax []) rfl).trans ?_)));rw[wq];exact bs (arK h nB hE.I.tr c) rfl
    ·simp only[M7,Hi,un];rfl
   have BN: ∀k,k≤1000→(decide (0≤(S.length:Int))&&(decide ((S.length:Int)≤(S.length:Int))&&(S.length*k).ble bm))=true:=fun k hk=>by
    have:=ga (n:=S.length) (m:=k) (by omega) hk;rwa [Int.toNat_natCast] at this
   have ju:(nS (eL m.L m.gT S (List.range m.n))).length≤6:=by rw[cI,eL,cU,jL];exact hL
   simp only[pG,lq,V.dF,V.eh,V.toInt_int,V.dP,wq,Int.toNat_natCast];refine bT (BN 24 (by omega)) (bT (BN 16 (by omega)) (bT (cW (by rw[hE.row,cU];omega)) (bs js (bT (by rw[pg];exact cap (b:=0) (by omega) (by omega)) (bT (BN 1 (by omega)) ?_)))));rw[pg];refine bs e2 ?_;rw[show R.length=S.length by rw[hE.row,cU]];refine bs e3 ?_;simp only[un];rw[show (ry m).length=1 from rfl];refine bT (ga (n:=1) (by omega) (by omega)) (bs e4 ?_);rw[arJ,show (gV m.L m.gT).length=m.L from eC];rfl
end
theorem aer {a:Da} (h:a.Ok) (nB:(minD a).n≤32):(CC ou (fA a)=some (syZ 3)∧UW (minD a).n)∨∃S,∃f:Nat→List UInt8,CC ou (fA a)=some (qt (minD a) S f++[.int .i64 0])∧td (minD a) S:=by
 have hm:=qq h;obtain ⟨r,e,h1⟩:=arL hm nB;have fin: ∀z,yV CC (a.L:Int) (a.st:Int) a.dH a.dX=z→CC ou (fA a)=z:=fun z h=>UZ h;rcases h1 with ⟨rfl,hb⟩|⟨S,f,rfl,hS⟩
 ·refine .inl ⟨fin _ ?_,hb⟩;unfold yV;exact bs (uI h) (bF rfl (bs (Be h) (bs (ac0 hm nB) (bF rfl (bs e (bT rfl rfl))))))
 ·refine .inr ⟨S,f,fin _ ?_,hS⟩;unfold yV;refine bs (uI h) (bF rfl (bs (Be h) (bs (ac0 hm nB) (bF rfl (bs e (bF rfl (bs (a:=V.list ax (mh (minD a) S)) rfl ?_)))))));rw[V.eh];rfl
def kz (m:Da) (w:List Nat):List Nat:=w.foldl (bn m.gT) (List.range m.n)
def vl (m:Da) (S:List (List Nat)) (w:List Nat):Nat:=cN S (kz m w)
section
variable {m:Da} (hm:m.Ok)
include hm
theorem aes: ∀(w:List Nat) {f:List Nat},Tr m.n f→WL m.L w→Tr m.n (w.foldl (bn m.gT) f)
 | [],_,hf,_=>hf
 | x::w,f,hf,hw=>aes w (f:=bn m.gT f x) (hf.comp (hm.gT hw.head)) hw.tail
theorem U0 {w:List Nat} (hw:WL m.L w):Tr m.n (kz m w):=aes hm w Fl hw
theorem arM: ∀(w:List Nat) {f:List Nat},Tr m.n f→WL m.L w→w.foldl (bn m.gT) f=comp f (kz m w):=by
 intro w
 induction w with
 | nil=>exact fun {f} hf _=>(comp_id hf).symm
 | cons x w ih=>
  intro f hf hw;have h1:=hm.gT hw.head;have e1:kz m (x::w)=comp (m.gT x) (kz m w):=by
   show w.foldl (bn m.gT) (bn m.gT (List.range m.n) x)=_;rw[ih (f:=bn m.gT (List.range m.n) x) (Fl.comp h1) hw.tail,acw (L:=m.L) (fun x hx=>hm.gT hx) hw.head]
  rw[e1,←UU hf h1];exact ih (hf.comp h1) hw.tail
theorem arN {u v:List Nat} (hu:WL m.L u) (hv:WL m.L v):kz m (u++v)=comp (kz m u) (kz m v):=by
 unfold kz;rw[zc];exact arM hm v (U0 hm hu) hv
theorem aet: ∀(w:List Nat) {f:List Nat} {q:Nat},Tr m.n f→q<m.n→WL m.L w→(w.foldl (bn m.gT) f).getD q 0=m.run (f.getD q 0) w
 | [],_,_,_,_,_=>rfl
 | x::w,f,q,hf,hq,hw=>by
  have h1:=hm.gT hw.head;rw[List.foldl_cons,aet w (f:=bn m.gT f x) (hf.comp h1) hq hw.tail,Da.SK];refine congrArg (fun p=>m.run p w) ?_;have dE:q<f.length:=by rw[hf.1];exact hq
  have h2:=hf.at dE;unfold bn comp;rw[getD_map (k:=fun i=>(m.gT x).getD i 0) dE,bC dE,Da.gT,getD_map (by simpa using h2),bC (l:=List.range m.n) (by simpa using h2),HY]
theorem Hm {w:List Nat} {q:Nat} (hq:q<m.n) (hw:WL m.L w):(kz m w).getD q 0=m.run q w:=by
 unfold kz;rw[aet hm w Fl hq hw,bC (by simpa using hq),HY]
theorem arO {u v:List Nat} (hu:WL m.L u) (hv:WL m.L v):kz m u=kz m v↔∀q,q<m.n→m.run q u=m.run q v:=by
 constructor
 ·intro e q hq;rw[←Hm hm hq hu,←Hm hm hq hv,e]
 ·intro h;have h1:=U0 hm hu;have h2:=U0 hm hv;refine tj (h1.1.trans h2.1.symm) fun i a b=> ?_;have hi:i<m.n:=by rw[←h1.1];exact a
  rw[←bC (d:=0) a,←bC (d:=0) b,Hm hm hi hu,Hm hm hi hv,h i hi]
section
variable {S:List (List Nat)} (hS:td m S)
include hS
omit hm in
theorem aeu: ∀(w:List Nat) {f:List Nat},f∈S→WL m.L w→w.foldl (bn m.gT) f∈S
 | [],_,hf,_=>hf
 | x::w,f,hf,hw=>aeu w (hS.cl f hf x hw.head) hw.tail
omit hm in
theorem U3:List.range m.n∈S:=by
 rw[←hS.BL,bC hS.pos];exact cJ _
omit hm in
theorem aev {w:List Nat} (hw:WL m.L w):kz m w∈S:=aeu hS w (U3 hS) hw
omit hm in
theorem yW {w:List Nat} (hw:WL m.L w):vl m S w<S.length:=km (aev hS hw)
omit hm in
theorem yX {w:List Nat} (hw:WL m.L w):S.getD (vl m S w) []=kz m w:=by
 rw[bC (yW hS hw)];exact Fo (aev hS hw)
omit hm in
theorem yY {i:Nat} (hi:i<S.length): ∃w,WL m.L w∧vl m S w=i:=by
 obtain ⟨w,hw,e⟩:=hS.re i hi;refine ⟨w,hw,?_⟩;unfold vl kz;rw[←e,bC hi];exact A3 hS.nd hi
omit hm in
theorem BO:vl m S []=0:=by
 unfold vl;show cN S (List.range m.n)=0;rw[←hS.BL,bC hS.pos];exact A3 hS.nd hS.pos
theorem te {u v:List Nat} (hu:WL m.L u) (hv:WL m.L v):dz S (vl m S u) (vl m S v)=vl m S (u++v):=by
 unfold dz;rw[yX hS hu,yX hS hv,←arN hm hu hv];rfl
theorem aew {u v:List Nat} (hu:WL m.L u) (hv:WL m.L v):vl m S u=vl m S v↔∀q,q<m.n→m.run q u=m.run q v:=by
 rw[←arO hm hu hv];exact ⟨fun e=>by rw[←yX hS hu,←yX hS hv,e],fun e=>by unfold vl;rw[e]⟩
theorem aex {i j:Nat} (hi:i<S.length) (hj:j<S.length):dz S i j<S.length:=by
 obtain ⟨u,hu,rfl⟩:=yY hS hi;obtain ⟨v,hv,rfl⟩:=yY hS hj;rw[te hm hS hu hv];exact yW hS (WL.app.2 ⟨hu,hv⟩)
theorem aey {i j k:Nat} (hi:i<S.length) (hj:j<S.length) (hk:k<S.length):dz S (dz S i j) k=dz S i (dz S j k):=by
 obtain ⟨u,hu,rfl⟩:=yY hS hi;obtain ⟨v,hv,rfl⟩:=yY hS hj;obtain ⟨w,hw,rfl⟩:=yY hS hk;rw[te hm hS hu hv,te hm hS hv hw,te hm hS (WL.app.2 ⟨hu,hv⟩) hw,te hm hS hu (WL.app.2 ⟨hv,hw⟩),jK]
end
end
def jH (m:Da) (S:List (List Nat)):Da:=⟨m.L,0,tab S.length fun i=>m.fin ((S.getD i []).getD m.st 0),tab S.length fun i=>eL m.L m.gT S (S.getD i [])⟩
section
variable {m:Da} (hm:m.Ok) {S:List (List Nat)} (hS:td m S)
theorem BP:(jH m S).n=S.length:=eC
theorem aez {i:Nat} (hi:i<S.length):(jH m S).fin i=m.fin ((S.getD i []).getD m.st 0):=uG hi
theorem aeA {i x:Nat} (hi:i<S.length) (hx:x<m.L):(jH m S).nx i x=cN S (bn m.gT (S.getD i []) x):=by
 unfold Da.nx jH;simp only;rw[uG hi];unfold eL;rw[getD_map (by rw[jL];exact hx),bC (l:=List.range m.L) (by rw[jL];exact hx),HY]
include hm hS
theorem aeB:(jH m S).Ok:=by
 refine ⟨hm.l1,hm.l6,by rw[BP];exact eC,fun r hr=> ?_,by rw[BP];exact hS.pos,by rw[BP];have:=hS.le;omega⟩;obtain ⟨i,hi,rfl⟩:=Ls.1 hr;refine ⟨by simp[eL,jH],fun q hq=> ?_⟩;obtain ⟨x,hx,rfl⟩:=eu.1 hq;rw[BP];exact km (hS.cl _ (by rw[bC hi];exact cJ _) x (fg.1 hx))
omit hm in
theorem aeC: ∀(w:List Nat) {f:List Nat},f∈S→WL m.L w→(jH m S).run (cN S f) w=cN S (w.foldl (bn m.gT) f)
 | [],_,_,_=>rfl
 | x::w,f,hf,hw=>by
  rw[Da.SK,aeA (km hf) hw.head,bC (km hf),Fo hf];exact aeC w (hS.cl f hf x hw.head) hw.tail
omit hm in
theorem arP {w:List Nat} (hw:WL m.L w):(jH m S).run 0 w=vl m S w:=by
 have:=aeC hS w (U3 hS) hw;rwa [show cN S (List.range m.n)=0 from BO hS] at this
theorem arQ {w:List Nat} (hw:WL m.L w):(jH m S).acc (jH m S).st w=m.acc m.st w:=by
 show (jH m S).fin ((jH m S).run 0 w)=m.fin (m.run m.st w);rw[arP hS hw,aez (yW hS hw),yX hS hw,Hm hm hm.s hw]
end
theorem arR {a:Da} (ha:a.Ok) {S:List (List Nat)} (hS:td (minD a) S):minD (jH (minD a) S)=minD a:=by
 have hm:=qq ha;refine (aep (aeB hm hS) hm rfl fun w hw=>arQ hm hS hw).trans (aeq ha)
theorem arS {a b:Da} (ha:a.Ok) (hb:b.Ok) (e:minD a=minD b):CC ou (fA a)=CC ou (fA b):=by
 have A: ∀z,yV CC (a.L:Int) (a.st:Int) a.dH a.dX=z→CC ou (fA a)=z:=fun z h=>UZ h;have B: ∀z,yV CC (b.L:Int) (b.st:Int) b.dH b.dX=z→CC ou (fA b)=z:=fun z h=>UZ h;refine A _ (Eq.trans ?_ (B _ rfl).symm);unfold yV;refine bs (uI ha) (bF rfl (bs (Be ha) ?_));rw[e];exact (bs (uI hb) (bF rfl (bs (Be hb) rfl))).symm
end Go.AM
set_option maxRecDepth 100000
namespace Go.AM
open Go.IntKind (wrap)
open Go.Proofs
namespace Da
theorem Li.reach {d:Da} (h1:1≤d.L) (h:d.Li): ∀t,t≤d.n*d.L→∀q,q<d.mt t→∃w,WL d.L w∧d.run 0 w=q
 | 0,_,q,hq=>⟨[],WL.nil,by have:q<1:=hq;show 0=q;omega⟩
 | t+1,ht,q,hq=>by
  have ih:=h.reach h1 t (by omega);rcases gr q (d.mt t) with c|c
  ·exact ih q c
  ·have e:d.pos t=q:=by
    unfold mt at hq;split at hq
    ·rename_i h3;omega
    ·omega
   have hx:t %d.L<d.L:=wJ _ (by omega);have hp:t/d.L<d.n:=by rw[HU (by omega)];omega
   have h2:=h.row _ hp;have h3:=d.Lj (Nat.div_mul_le_self t d.L);obtain ⟨w,hw,hr⟩:=ih (t/d.L) (by omega);refine ⟨w++[t %d.L],WL.app.2 ⟨hw,WL.nil.cons hx⟩,?_⟩;rw[Lh,hr];exact e
end Da
theorem aeD {a:Da} (h:a.Ok) {q:Nat} (hq:q<(minD a).n): ∃w,WL a.L w∧(minD a).run (minD a).st w=q:=by
 have hc:=uN h;obtain ⟨w,hw,hr⟩:=hc.num.reach (qq h).l1 _ (az _) q (by rw[hc.num.all];exact hq);exact ⟨w,by rw[qs h] at hw;exact hw,by rw[aeo h];exact hr⟩
end Go.AM
set_option maxRecDepth 100000
namespace Go.AM
open Go.IntKind (wrap)
open Go.Proofs
namespace Da
def pre (a:Da) (k:Nat) (g:Nat→List Nat):Da:=⟨k,a.st,a.F,tab a.n fun q=>tab k fun x=>a.run q (g x)⟩
theorem arT {a:Da} {k:Nat} {g:Nat→List Nat}:(a.pre k g).n=a.n:=rfl
theorem aeE {a:Da} {k:Nat} {g:Nat→List Nat} {q x:Nat} (hq:q<a.n) (hx:x<k):(a.pre k g).nx q x=a.run q (g x):=by
 show ((tab a.n fun q=>tab k fun x=>a.run q (g x)).getD q []).getD x 0=_;rw[uG hq,uG hx]
theorem Ok.pre {a:Da} (h:a.Ok) {k:Nat} {g:Nat→List Nat} (h1:1≤k) (h6:k≤6) (hg: ∀x,x<k→WL a.L (g x)):(a.pre k g).Ok:=⟨h1,h6,by simp[Da.pre,n],fun r hr=>by
 obtain ⟨q,hq,rfl⟩:=Ls.1 hr;refine ⟨by simp[Da.pre],fun s hs=> ?_⟩;obtain ⟨x,hx,rfl⟩:=Ls.1 hs;exact h.wh _ hq (hg x hx),h.s,h.jc⟩
theorem aeF {a:Da} (h:a.Ok) {k:Nat} {g:Nat→List Nat} (hg: ∀x,x<k→WL a.L (g x)): ∀(w:List Nat) {q:Nat},q<a.n→WL k w→(a.pre k g).run q w=a.run q (w.flatMap g)
 | [],_,_,_=>rfl
 | x::w,q,hq,hw=>by
  rw[SK,aeE hq hw.head,aeF h hg w (h.wh _ hq (hg x hw.head)) hw.tail,ve,Lh]
theorem arU {a:Da} (h:a.Ok) {k:Nat} {g:Nat→List Nat} (hg: ∀x,x<k→WL a.L (g x)) {w:List Nat} {q:Nat} (hq:q<a.n) (hw:WL k w):(a.pre k g).acc q w=a.acc q (w.flatMap g):=by
 show (a.pre k g).fin ((a.pre k g).run q w)=_;rw[aeF h hg w hq hw];rfl
end Da
end Go.AM
set_option maxRecDepth 100000
namespace Go.AM
open Go.IntKind (wrap)
open Go.Proofs
theorem arV {f:Nat→Nat} {n:Nat} (h: ∀p q,p<n→q<n→f p=f q→p=q):((List.range n).map f).Nodup:=by
 refine List.pairwise_map.2 (List.nodup_range.imp_of_mem fun {a b} ha hb bK e=>bK ?_);exact h a b (fg.1 ha) (fg.1 hb) e
theorem aeG {a:Da} (h:a.Ok):(minD a).n≤a.n:=by
 have hc:=uN h;have hL:=qs h;have hex: ∀q:Nat,∃w,q<(minD a).n→WL a.L w∧(minD a).run (minD a).st w=q:=fun q=>by
  by_cases c:q<(minD a).n
  ·obtain ⟨w,h1,h2⟩:=aeD h c;exact ⟨w,fun _=>⟨h1,h2⟩⟩
  ·exact ⟨[],fun c2=>absurd c2 c⟩
 obtain ⟨W,hW⟩:=Classical.axiomOfChoice hex;have key:=wM (l₁:=(List.range (minD a).n).map fun q=>a.run a.st (W q)) (l₂:=List.range a.n) (arV fun p q hp hq e=> ?_) fun x hx=> ?_
 ·simpa using key
 ·obtain ⟨p1,p2⟩:=hW p hp;obtain ⟨q1,q2⟩:=hW q hq;refine hc.red p q hp hq fun w hw=> ?_;rw[hL] at hw;rw[←p2,←q2,←Da.wi,←Da.wi,Na h (WL.app.2 ⟨p1,hw⟩),Na h (WL.app.2 ⟨q1,hw⟩),Da.wi,Da.wi,e]
 ·obtain ⟨q,hq,rfl⟩:=eu.1 hx;exact fg.2 (h.wh _ h.s (hW q (fg.1 hq)).1)
def Hn:Nat→List (List Nat)
 | 0=>[[]]
 | n+1=>(Hn n).flatMap fun t=>[0::t,1::t,2::t]
theorem aeH: ∀{f:List Nat},(∀x∈f,x<3)→f∈Hn f.length
 | [],_=>by simp[Hn]
 | x::f,h=>by
  have h1:=aeH fun y hy=>h y (j6 _ hy);have h2:=h x (by simp);refine List.mem_flatMap.2 ⟨f,h1,?_⟩;rcases (by omega:x=0∨x=1∨x=2) with rfl|rfl|rfl<;>simp
theorem arW: ∀n,n≤3→(Hn n).length≤400:=by decide
theorem aeI {n:Nat} (h:n≤3): ¬UW n:=by
 rintro ⟨T,hd,ht,hl⟩;have:=wM (l₂:=Hn n) hd fun f hf=>by
  have:=ht f hf;rw[←this.1];exact aeH fun x hx=>by have:=this.2 x hx;omega
 have:=arW n h;omega
section
variable {m:Da} (hm:m.Ok) {S:List (List Nat)} (hS:td m S) {k:Nat} (h1:1≤k) (h6:k≤6) {g:Nat→List Nat} (hg: ∀x,x<k→WL m.L (g x)) {S2:List (List Nat)} (iN:td (minD (m.pre k g)) S2)
theorem uU (hg: ∀x,x<k→WL m.L (g x)) {v:List Nat} (hv:WL k v):WL m.L (v.flatMap g):=fun x hx=>by
 obtain ⟨y,hy,hx⟩:=List.mem_flatMap.1 hx;exact hg y (hv y hy) x hx
include hm hS h1 h6 hg iN
theorem arX {u v:List Nat} (hu:WL k u) (hv:WL k v) (e:vl m S (u.flatMap g)=vl m S (v.flatMap g)):vl (minD (m.pre k g)) S2 u=vl (minD (m.pre k g)) S2 v:=by
 have hp:=hm.pre h1 h6 hg;have hL:(minD (m.pre k g)).L=k:=qs hp;have hP:=qq hp;refine (aew hP iN (by rw[hL];exact hu) (by rw[hL];exact hv)).2 fun q hq=> ?_;have e2:=(aew hm hS (uU hg hu) (uU hg hv)).1 e;obtain ⟨w,hw,rfl⟩:=aeD hp hq;have xn:WL k w:=hw;refine (uN hp).red _ _ (hP.wh _ hq (by rw[hL];exact hu)) (hP.wh _ hq (by rw[hL];exact hv)) fun z hz=> ?_;rw[hL] at hz;have A: ∀{x:List Nat},WL k x→(minD (m.pre k g)).acc ((minD (m.pre k g)).run ((minD (m.pre k g)).run (minD (m.pre k g)).st w) x) z=m.acc (m.run (m.run m.st (w.flatMap g)) (x.flatMap g)) (z.flatMap g):=fun {x} hx=>by
  rw[←Da.wi,←Da.wi,Na hp (WL.app.2 ⟨xn,WL.app.2 ⟨hx,hz⟩⟩)];show (m.pre k g).acc m.st (w++(x++z))=_;rw[Da.arU hm hg hm.s (WL.app.2 ⟨xn,WL.app.2 ⟨hx,hz⟩⟩),HZ,HZ,Da.wi,Da.wi]
 rw[A hu,A hv,e2 _ (hm.wh _ hm.s (uU hg xn))]
def vals (m:Da) (S:List (List Nat)) (k:Nat) (g:Nat→List Nat):List Nat:=0::(List.range k).map fun x=>vl m S (g x)
omit hm h1 h6 hg iN in
theorem U4 {z:Nat} (hz:z∈vals m S k g): ∃v,WL k v∧v.length≤1∧vl m S (v.flatMap g)=z:=by
 rcases lu.1 hz with rfl|hz
 ·exact ⟨[],WL.nil,by simp,BO hS⟩
 ·obtain ⟨x,hx,rfl⟩:=eu.1 hz;exact ⟨[x],WL.nil.cons (fg.1 hx),by simp,by simp⟩
omit hm h1 h6 iN in
theorem arY {z:Nat} (hz:z∈vals m S k g):z<S.length:=by
 obtain ⟨v,hv,_,rfl⟩:=U4 hS hz;exact yW hS (uU hg hv)
omit h1 h6 iN in
theorem arZ {z:Nat} (hz:kq (dz S) (vals m S k g) z): ∃v,WL k v∧vl m S (v.flatMap g)=z:=by
 induction hz with
 | one h=>obtain ⟨v,hv,_,e⟩:=U4 hS h;exact ⟨v,hv,e⟩
 | more _ h ih=>
  obtain ⟨u,hu,rfl⟩:=ih;obtain ⟨v,hv,_,rfl⟩:=U4 hS h;exact ⟨u++v,WL.app.2 ⟨hu,hv⟩,by rw[HZ,te hm hS (uU hg hu) (uU hg hv)]⟩
open Classical in
noncomputable def Nd (m:Da) (S:List (List Nat)) (k:Nat) (g:Nat→List Nat) (z:Nat):List Nat:=if h: ∃v,WL k v∧vl m S (v.flatMap g)=z then Classical.choose h else []
section
variable {Z:List Nat} (hZ:GV S.length (dz S) (vals m S k g) Z)
include hZ
noncomputable def pz (m:Da) (S:List (List Nat)) (k:Nat) (g:Nat→List Nat) (S2:List (List Nat)) (Z:List Nat) (i:Nat):Nat:=vl (minD (m.pre k g)) S2 (Nd m S k g (Z.getD i 0))
omit h1 h6 iN in
theorem Nf {i:Nat} (hi:i<Z.length):WL k (Nd m S k g (Z.getD i 0))∧vl m S ((Nd m S k g (Z.getD i 0)).flatMap g)=Z.getD i 0:=by
 have h:=arZ hm hS hg (hZ.pr _ (yS hi));unfold Nd;rw[pC h];exact HX h
theorem U5 {i:Nat} (hi:i<Z.length) {v:List Nat} (hv:WL k v) (e:vl m S (v.flatMap g)=Z.getD i 0):pz m S k g S2 Z i=vl (minD (m.pre k g)) S2 v:=by
 have h:=Nf hm hS hg hZ hi;exact arX hm hS h1 h6 hg iN h.1 hv (h.2.trans e.symm)
theorem ar0 {i:Nat} (hi:i<Z.length):pz m S k g S2 Z i<S2.length:=by
 have hL:(minD (m.pre k g)).L=k:=qs (hm.pre h1 h6 hg);exact yW iN (by rw[hL];exact (Nf hm hS hg hZ hi).1)
theorem ar1 {i j:Nat} (hi:i<Z.length) (hj:j<Z.length):pz m S k g S2 Z (iw (dz S) Z i j)=dz S2 (pz m S k g S2 Z i) (pz m S k g S2 Z j):=by
 have hp:=hm.pre h1 h6 hg;have hL:(minD (m.pre k g)).L=k:=qs hp;have a:=Nf hm hS hg hZ hi;have b:=Nf hm hS hg hZ hj;have c:=ad7 hZ hi hj;rw[U5 hm hS h1 h6 hg iN hZ c (WL.app.2 ⟨a.1,b.1⟩) (by rw[UG hZ hi hj,HZ,←te hm hS (uU hg a.1) (uU hg b.1),a.2,b.2])];unfold pz;rw[te (qq hp) iN (by rw[hL];exact a.1) (by rw[hL];exact b.1)]
theorem ar2:((vals m S k g).map (cN Z)).map (pz m S k g S2 Z)=0::(List.range k).map fun x=>vl (minD (m.pre k g)) S2 [x]:=by
 have at_: ∀{v:List Nat},WL k v→vl m S (v.flatMap g)∈vals m S k g→pz m S k g S2 Z (cN Z (vl m S (v.flatMap g)))=vl (minD (m.pre k g)) S2 v:=fun {v} hv xb=>
  U5 hm hS h1 h6 hg iN hZ (km (hZ.sub _ xb)) hv (BE (hZ.sub _ xb)).symm
 have e0:vl m S (([]:List Nat).flatMap g)=0:=BO hS;unfold vals;rw[iO,iO,pH,pH];refine congr (congrArg List.cons ?_) (mo fun x hx=> ?_)
 ·have:=at_ (v:=[]) WL.nil (by rw[e0];simp[vals]);rw[e0] at this;rw[this];exact BO iN
 ·have cS:=fg.1 hx;have hv:vl m S (([x]:List Nat).flatMap g)∈vals m S k g:=j6 _ (eu.2 ⟨x,hx,by simp⟩);have:=at_ (v:=[x]) (WL.nil.cons cS) hv;simpa using this
theorem ar3 {y:Nat} (hy:y<S2.length): ∃i,i<Z.length∧pz m S k g S2 Z i=y:=by
 have hp:=hm.pre h1 h6 hg;have hL:(minD (m.pre k g)).L=k:=qs hp;obtain ⟨v,hv,rfl⟩:=yY iN hy;rw[hL] at hv;have hz: ∀{v:List Nat},WL k v→vl m S (v.flatMap g)∈Z:=by
  intro v
  induction v with
  | nil=>intro _;exact hZ.sub _ (by rw[show vl m S (([]:List Nat).flatMap g)=0 from BO hS];simp[vals])
  | cons x v ih=>
   intro hv;rw[ve,←te hm hS (hg x hv.head) (uU hg hv.tail)];exact hZ.cl _ (hZ.sub _ (j6 _ (eu.2 ⟨x,fg.2 hv.head,rfl⟩))) _ (ih hv.tail)
 exact ⟨cN Z (vl m S (v.flatMap g)),km (hz hv),U5 hm hS h1 h6 hg iN hZ (km (hz hv)) hv (BE (hz hv)).symm⟩
end
end
section
variable {K:Nat} {mul:Nat→Nat→Nat} {G Z:List Nat} (hZ:GV K mul G Z)
include hZ
theorem ar4 {x:Nat} (hx:x<Z.length):kq (iw mul Z) (G.map (cN Z)) x:=by
 have key: ∀z,kq mul G z→z∈Z∧kq (iw mul Z) (G.map (cN Z)) (cN Z z):=fun z hz=>by
  induction hz with
  | one h=>exact ⟨hZ.sub _ h,.one (eu.2 ⟨_,h,rfl⟩)⟩
  | more _ h ih=>
   rename_i x y hx;have hg:=hZ.sub _ h;refine ⟨hZ.cl _ ih.1 _ hg,?_⟩;have:cN Z (mul x y)=iw mul Z (cN Z x) (cN Z y):=by unfold iw;rw[BE ih.1,BE hg]
   rw[this];exact .more ih.2 (eu.2 ⟨_,h,rfl⟩)
 have:=(key _ (hZ.pr _ (yS hx))).2;rwa [bC hx,A3 (MV hZ.GW) hx] at this
end
noncomputable def Ho (C:af) (s1 s2:LV) (t12 t13:Int) {β:Type} (kn:Int→Option β) (kr:((Bool) ⊕ (Int×Bool))→Option β):Option β:=
 bif decide (t13<t12) then
  (idx s1 t13).bind fun x1=>
  (idx s2 t13).bind fun x2=>
  bif (x1.toInt:Int) != x2.toInt then
  kr (.inl false)
  else
  kn (wrap .i64 (t13+1))
 else
  kr (.inr (t13,decide (t13<t12)))
noncomputable def U6 (C:af) (s1 s2:LV) (t12:Int):=fun t13=>Ho C s1 s2 t12 t13 (fun y=>some (Sum.inl y)) (fun r=>some (Sum.inr r))
noncomputable def ar5 (C:af):cx:=br 65 RA [EQ,EQ,EQ,H1] [[0],[1,2,3,0,0]] (@Ho C) bA
theorem ar6 (C:af):aZ C (ar5 C) 56 (Lp [1,1,0,1,0,0] 56):=bq RA [EQ,EQ,EQ,H1] [[0],[1,2,3,0,0]] (@Ho C) (aR au)
noncomputable def aeJ (C:af) (s1 s2:LV):Option LV:=
 bif (s1.length:Int) != (s2.length:Int) then
  some [.bool false]
 else
  (Loop (U6 C s1 s2 (s1.length:Int)) 0).bind (cM (fun (jB:Bool)=>
   some [.bool jB]) (un fun (gP:Int) (oy:Bool)=>
   some [.bool true]))
theorem ar7 {s1 s2:LV} {r:Option LV} (h:aeJ CC s1 s2=r):CC D3 [.list ae s1,.list ae s2]=r:=bz (aY (ar6 CC) au) h
noncomputable def Hp (C:af) (s1 s2:LV) (t12 t13:Int) {β:Type} (kn:Int→Option β) (kr:((Bool) ⊕ (Int×Bool))→Option β):Option β:=
 bif decide (t13<t12) then
  (idx s1 t13).bind fun x1=>
  (idx s2 t13).bind fun x2=>
  bif !(x1.toBool==x2.toBool) then
  kr (.inl false)
  else
  kn (wrap .i64 (t13+1))
 else
  kr (.inr (t13,decide (t13<t12)))
noncomputable def U7 (C:af) (s1 s2:LV) (t12:Int):=fun t13=>Hp C s1 s2 t12 t13 (fun y=>some (Sum.inl y)) (fun r=>some (Sum.inr r))
noncomputable def ar8 (C:af):cx:=br 65 RC [EQ,EQ,EQ,H1] [[0],[1,2,3,0,0]] (@Hp C) bA
theorem ar9 (C:af):aZ C (ar8 C) 58 (Lp [1,1,0,1,0,0] 58):=bq RC [EQ,EQ,EQ,H1] [[0],[1,2,3,0,0]] (@Hp C) (aR au)
noncomputable def aeK (C:af) (s1 s2:LV):Option LV:=
 bif (s1.length:Int) != (s2.length:Int) then
  some [.bool false]
 else
  (Loop (U7 C s1 s2 (s1.length:Int)) 0).bind (cM (fun (jB:Bool)=>
   some [.bool jB]) (un fun (gP:Int) (oy:Bool)=>
   some [.bool true]))
theorem asa {s1 s2:LV} {r:Option LV} (h:aeK CC s1 s2=r):CC D4 [.list ax s1,.list ax s2]=r:=bz (aY (ar9 CC) au) h
noncomputable def Hq (C:af) (s1 s2:LV) (t12 t13:Int) {β:Type} (kn:Int→Option β) (kr:((Bool) ⊕ (Int×Bool))→Option β):Option β:=
 bif decide (t13<t12) then
  (idx s1 t13).bind fun x1=>
  (idx s2 t13).bind fun x2=>
  bif !(x1.toStr==x2.toStr) then
  kr (.inl false)
  else
  kn (wrap .i64 (t13+1))
 else
  kr (.inr (t13,decide (t13<t12)))
noncomputable def U8 (C:af) (s1 s2:LV) (t12:Int):=fun t13=>Hq C s1 s2 t12 t13 (fun y=>some (Sum.inl y)) (fun r=>some (Sum.inr r))
noncomputable def asb (C:af):cx:=br 65 RB [EQ,EQ,EQ,H1] [[0],[1,2,3,0,0]] (@Hq C) bA
theorem asd (C:af):aZ C (asb C) 57 (Lp [1,1,0,1,0,0] 57):=bq RB [EQ,EQ,EQ,H1] [[0],[1,2,3,0,0]] (@Hq C) (aR au)
noncomputable def aeL (C:af) (s1 s2:LV):Option LV:=
 bif (s1.length:Int) != (s2.length:Int) then
  some [.bool false]
 else
  (Loop (U8 C s1 s2 (s1.length:Int)) 0).bind (cM (fun (jB:Bool)=>
   some [.bool jB]) (un fun (gP:Int) (oy:Bool)=>
   some [.bool true]))
theorem ase {s1 s2:LV} {r:Option LV} (h:aeL CC s1 s2=r):CC Kj [.list ch s1,.list ch s2]=r:=bz (aY (asd CC) au) h
noncomputable def Hr (C:af) (n:Int) (t7:LV) (t8 t9:Int) {β:Type} (kn:Int→Option β) (kr:((Bool) ⊕ (Int×Bool))→Option β):Option β:=
 bif decide (t9<t8) then
  (idx t7 t9).bind fun x1=>
  bif decide ((x1.toInt:Int)<0) then
  kr (.inl false)
  else
  bif decide ((x1.toInt:Int)≥n) then
   kr (.inl false)
  else
   kn (wrap .i64 (t9+1))
 else
  kr (.inr (t9,decide (t9<t8)))
noncomputable def U9 (C:af) (n:Int) (t7:LV) (t8:Int):=fun t9=>Hr C n t7 t8 t9 (fun y=>some (Sum.inl y)) (fun r=>some (Sum.inr r))
noncomputable def asf (C:af):cx:=br 33 R6 [EQ,EQ,EQ,H1] [[0],[1,2,3,0,0]] (@Hr C) bA
theorem asg (C:af):aZ C (asf C) 86 (Lp [1,0,1,0,0] 86):=bq R6 [EQ,EQ,EQ,H1] [[0],[1,2,3,0,0]] (@Hr C) (aR au)
noncomputable def aeM (C:af) (list:LV) (n:Int):Option LV:=
 (Loop (U9 C n list (list.length:Int)) 0).bind (cM (fun (sO:Bool)=>
  some [.bool sO]) (un fun (jB:Int) (gP:Bool)=>
  some [.bool true]))
theorem ash {list:LV} {n:Int} {r:Option LV} (h:aeM CC list n=r):CC D8 [.list ae list,V.int .i64 n]=r:=bz (aY (asg CC) au) h
noncomputable def Hs (C:af) (n:Int) (t53:LV) (t54 iy:Int) (jI kC jg kD kG:LV) (t55:Int) {β:Type} (kn:Int→Option β) (kr:((Bool) ⊕ (Int×Bool))→Option β):Option β:=
 bif decide (t55<t54) then
  (idx t53 t55).bind fun x1=>
  bif (x1.toList.length:Int) != n then
  kr (.inl false)
  else
  (C D8 [.list ae x1.toList,V.int .i64 n]).bind fun r2=>
  bif !((V.nth r2 0).toBool) then
   kr (.inl false)
  else
   kn (wrap .i64 (t55+1))
 else
  kr (.inr (t55,decide (t55<t54)))
noncomputable def Va (C:af) (n:Int) (t53:LV) (t54 iy:Int) (jI kC jg kD kG:LV):=fun t55=>Hs C n t53 t54 iy jI kC jg kD kG t55 (fun y=>some (Sum.inl y)) (fun r=>some (Sum.inr r))
noncomputable def asi (C:af):cx:=br 113 Rx [EQ,EQ,EQ,H1,EQ,EQ,EQ,EQ,EQ,EQ] [[0],[1,2,3,0,0,5,6,7,8,9,10]] (@Hs C) bA
theorem asj (C:af):aZ C (asi C) 54 (Lp [1,1,1,1,0,1,0,0] 54):=bq Rx [EQ,EQ,EQ,H1,EQ,EQ,EQ,EQ,EQ,EQ] [[0],[1,2,3,0,0,5,6,7,8,9,10]] (@Hs C) (aR au)
noncomputable def aeN (C:af) (fc:Int) (dI fT fJ fw fU:LV):Option LV:=
 bif decide (fc<1) then
  some [.bool false]
 else
  bif decide (fc>6) then
  some [.bool false]
  else
  bif decide ((dI.length:Int)<1) then
   some [.bool false]
  else
   bif decide ((dI.length:Int)>400) then
   some [.bool false]
   else
   bif (fT.length:Int) != (dI.length:Int) then
    some [.bool false]
   else
    bif (fw.length:Int) != (dI.length:Int) then
    some [.bool false]
    else
    bif (fU.length:Int) != (dI.length:Int) then
     some [.bool false]
    else
     bif (fJ.length:Int) != fc then
     some [.bool false]
     else
     (Loop (Va C (dI.length:Int) dI (dI.length:Int) fc dI fT fJ fw fU) 0).bind (cM (fun (jB:Bool)=>
      some [.bool jB]) (un fun (gP:Int) (oy:Bool)=>
      (C D8 [.list ae fJ,V.int .i64 (dI.length:Int)]).bind fun r6=>
      some [.bool ((V.nth r6 0).toBool)]))
theorem asl {fc:Int} {dI fT fJ fw fU:LV} {r:Option LV} (h:aeN CC fc dI fT fJ fw fU=r):CC Kh [V.int .i64 fc,.list ah dI,.list ch fT,.list ae fJ,.list ax fw,.list ax fU]=r:=bz (aY (asj CC) au) h
noncomputable def Ht (C:af) (x:Int) (row t19:LV) (t20 t21:Int) (t34:LV) (t35 iy:Int) (jI kC jg kD kG:LV) (gk gm cC cT:Int) (aI bh bp:LV) (t36:Int) (aS:LV) {β:Type} (kn:(Int×LV)→Option β) (kr:(Int×Bool×LV)→Option β):Option β:=
 bif decide (t36<t35) then
  (idx t34 t36).bind fun x3=>
  aq aS x fun x4=>
  (idx row x3.toInt).bind fun x5=>
  (eS Tryz.prog ah aS [(x.toNat,0)]).bind fun x6=>
  bif (decide (0≤t36))&&(decide (t36<(x6.toList.length:Int))) then
  (eS Tryz.prog ah aS [(x.toNat,0)]).bind fun x7=>
  (x7.toList[t36.toNat]?).bind fun x8=>
  kn (wrap .i64 (t36+1),setRow Tryz.prog (aD x7.toList t36 (V.int .i64 x5.toInt)) ah aS [(x.toNat,0)])
  else none
 else
  kr (t36,decide (t36<t35),aS)
noncomputable def Ng (C:af) (x:Int) (row t19:LV) (t20 t21:Int) (t34:LV) (t35 iy:Int) (jI kC jg kD kG:LV) (gk gm cC cT:Int) (aI bh bp:LV):=un fun t36 aS=>Ht C x row t19 t20 t21 t34 t35 iy jI kC jg kD kG gk gm cC cT aI bh bp t36 aS (fun y=>some (Sum.inl y)) (fun r=>some (Sum.inr r))
noncomputable def Hu (C:af) (t19:LV) (t20 iy:Int) (jI kC jg kD kG:LV) (gk gm cC cT:Int) (aI bh bp:LV) (t21:Int) (aS:LV) {β:Type} (kn:(Int×LV)→Option β) (kr:(Int×Bool×LV)→Option β):Option β:=
 bif decide (t21<t20) then
  (idx t19 t21).bind fun x1=>
  bif (decide (0≤iy))&&((decide (iy≤iy))&&(Nat.ble ((iy.toNat)*8) bm)) then
  aq aS t21 fun x2=>
  (Loop (Ng C t21 x1.toList t19 t20 t21 jg (jg.length:Int) iy jI kC jg kD kG gk gm cC cT aI bh bp) (0,aD aS t21 (.list ae (List.replicate (iy.toNat) (V.int .i64 0))))).bind (un fun mL=>un fun (LJ:Bool) (yx:LV)=>
   kn (wrap .i64 (t21+1),yx))
  else none
 else
  kr (t21,decide (t21<t20),aS)
noncomputable def Vb (C:af) (t19:LV) (t20 iy:Int) (jI kC jg kD kG:LV) (gk gm cC cT:Int) (aI bh bp:LV):=un fun t21 aS=>Hu C t19 t20 iy jI kC jg kD kG gk gm cC cT aI bh bp t21 aS (fun y=>some (Sum.inl y)) (fun r=>some (Sum.inr r))
noncomputable def aeO (C:af):cx:=br 113 Ry [EQ,EQ,EQ,EQ,EQ,EQ,EQ,H1,EQ,EQ,EQ,EQ,EQ,EQ,EQ,EQ,EQ,EQ,EQ,EQ,EQ,H1] [[1,2,3,4,5,6,7,0,0,9,10,11,12,13,14,15,16,17,18,19,20,21,0]] (@Ht C) (br 49 Rz [EQ,EQ,H1,EQ,EQ,EQ,EQ,EQ,EQ,EQ,EQ,EQ,EQ,EQ,EQ,EQ,H1] [[1,2,0,0,4,5,6,7,8,9,10,11,12,13,14,15,16,0]] (@Hu C) bA)
theorem asm (C:af):aZ C (aeO C) 55 (Lp [1,1,0,1,0,0,1,1,0,0,1,1,1,0,0] 55):=bq Ry [EQ,EQ,EQ,EQ,EQ,EQ,EQ,H1,EQ,EQ,EQ,EQ,EQ,EQ,EQ,EQ,EQ,EQ,EQ,EQ,EQ,H1] [[1,2,3,4,5,6,7,0,0,9,10,11,12,13,14,15,16,17,18,19,20,21,0]] (@Ht C) (aR au)
theorem asn (C:af):aZ C (aeO C) 55 (Lp [1,1,0,1,0,0] 55):=bq Rz [EQ,EQ,H1,EQ,EQ,EQ,EQ,EQ,EQ,EQ,EQ,EQ,EQ,EQ,EQ,EQ,H1] [[1,2,0,0,4,5,6,7,8,9,10,11,12,13,14,15,16,0]] (@Hu C) (aR (aY (asm C) au))
noncomputable def aeP (C:af) (fc:Int) (dI fT fJ fw fU:LV):Option LV:=
 bif Nat.ble (fw.length*1) bm then
  bif (decide (0≤(dI.length:Int)))&&((decide ((dI.length:Int)≤(dI.length:Int)))&&(Nat.ble (((dI.length:Int).toNat)*24) bm)) then
  (Loop (Vb C dI (dI.length:Int) fc dI fT fJ fw fU 0 0 fc 0 ([]:LV) ([]:LV) fw) (0,List.replicate ((dI.length:Int).toNat) (V.list ae ([]:LV)))).bind (un fun sY=>un fun (yC:Bool) (qh:LV)=>
   some [V.int .i64 fc,V.int .i64 0,.list ax fw,.list ah qh])
  else none
 else none
theorem aso {fc:Int} {dI fT fJ fw fU:LV} {r:Option LV} (h:aeP CC fc dI fT fJ fw fU=r):CC Ki [V.int .i64 fc,.list ah dI,.list ch fT,.list ae fJ,.list ax fw,.list ax fU]=r:=bz (aY (asn CC) au) h
noncomputable def Hv (C:af) (t28:LV) (t29 iy:Int) (jI kC jg kD kG:LV) (iH:Int) (iI uO sZ aeQ aeR:LV) (t30:Int) {β:Type} (kn:Int→Option β) (kr:((Int) ⊕ (Int×Bool))→Option β):Option β:=
 bif decide (t30<t29) then
  (idx t28 t30).bind fun x4=>
  (idx jI t30).bind fun x5=>
  (C D3 [.list ae x4.toList,.list ae x5.toList]).bind fun r6=>
  bif !((V.nth r6 0).toBool) then
  kr (.inl 8)
  else
  kn (wrap .i64 (t30+1))
 else
  kr (.inr (t30,decide (t30<t29)))
noncomputable def Nh (C:af) (t28:LV) (t29 iy:Int) (jI kC jg kD kG:LV) (iH:Int) (iI uO sZ aeQ aeR:LV):=fun t30=>Hv C t28 t29 iy jI kC jg kD kG iH iI uO sZ aeQ aeR t30 (fun y=>some (Sum.inl y)) (fun r=>some (Sum.inr r))
noncomputable def asp (C:af):cx:=br 113 Rm [EQ,EQ,H1,EQ,EQ,EQ,EQ,EQ,EQ,EQ,EQ,EQ,EQ,EQ,EQ] [[0],[1,2,0,0,4,5,6,7,8,9,10,11,12,13,14,15]] (@Hv C) bA
theorem asq (C:af):aZ C (asp C) 27 (Lp [1,1,1,1,0,1,0,0] 27):=bq Rm [EQ,EQ,H1,EQ,EQ,EQ,EQ,EQ,EQ,EQ,EQ,EQ,EQ,EQ,EQ] [[0],[1,2,0,0,4,5,6,7,8,9,10,11,12,13,14,15]] (@Hv C) (aR au)
noncomputable def Vc (C:af) (fc:Int) (dI fT fJ fw fU:LV):Option LV:=
 (C Kh [V.int .i64 fc,.list ah dI,.list ch fT,.list ae fJ,.list ax fw,.list ax fU]).bind fun r1=>
 bif !((V.nth r1 0).toBool) then
  some [V.int .i64 8]
 else
  (C Ki [V.int .i64 fc,.list ah dI,.list ch fT,.list ae fJ,.list ax fw,.list ax fU]).bind fun r2=>
  (C ou [V.int .i64 ((V.nth r2 0).toInt),V.int .i64 ((V.nth (r2.drop 1) 0).toInt),.list ax ((V.nth (r2.drop 2) 0).toList),.list ah ((V.nth ((r2.drop 2).drop 1) 0).toList)]).bind fun r3=>
  bif (((V.nth (r3.drop 6) 0).toInt):Int) != 0 then
  some [V.int .i64 8]
  else
  bif ((((V.nth (r3.drop 1) 0).toList).length:Int):Int) != (dI.length:Int) then
   some [V.int .i64 8]
  else
   (Loop (Nh C ((V.nth (r3.drop 1) 0).toList) (((V.nth (r3.drop 1) 0).toList).length:Int) fc dI fT fJ fw fU ((V.nth r3 0).toInt) ((V.nth (r3.drop 1) 0).toList) ((V.nth ((r3.drop 1).drop 1) 0).toList) ((V.nth (((r3.drop 1).drop 1).drop 1) 0).toList) ((V.nth ((((r3.drop 1).drop 1).drop 1).drop 1) 0).toList) ((V.nth (((((r3.drop 1).drop 1).drop 1).drop 1).drop 1) 0).toList)) 0).bind (cM (fun oA=>
    some [V.int .i64 oA]) (un fun (wk:Int) (mL:Bool)=>
    (C Kj [.list ch ((V.nth ((r3.drop 1).drop 1) 0).toList),.list ch fT]).bind fun Mu=>
    bif !((V.nth Mu 0).toBool) then
    some [V.int .i64 8]
    else
    (C D3 [.list ae ((V.nth (((r3.drop 1).drop 1).drop 1) 0).toList),.list ae fJ]).bind fun dt=>
    bif !((V.nth dt 0).toBool) then
     some [V.int .i64 8]
    else
     (C D4 [.list ax ((V.nth ((((r3.drop 1).drop 1).drop 1).drop 1) 0).toList),.list ax fw]).bind fun ma=>
     bif !((V.nth ma 0).toBool) then
     some [V.int .i64 8]
     else
     (C D4 [.list ax ((V.nth (((((r3.drop 1).drop 1).drop 1).drop 1).drop 1) 0).toList),.list ax fU]).bind fun qu=>
     bif !((V.nth qu 0).toBool) then
      some [V.int .i64 8]
     else
      some [V.int .i64 0]))
theorem asr {fc:Int} {dI fT fJ fw fU:LV} {r:Option LV} (h:Vc CC fc dI fT fJ fw fU=r):CC DY [V.int .i64 fc,.list ah dI,.list ch fT,.list ae fJ,.list ax fw,.list ax fU]=r:=bz (aY (asq CC) au) h
noncomputable def Hw (C:af) (w:List UInt8) (t13 iy:Int) (jI kC jg kD kG:LV) (x t14:Int) {β:Type} (kn:(Int×Int)→Option β) (kr:(Int×Int×Bool)→Option β):Option β:=
 bif decide (t14<t13) then
  (idx jI x).bind fun x2=>
  (bif decide (0≤t14) then (w[t14.toNat]?).map fun b=>V.int .u8 b.toNat else none).bind fun x3=>
  (idx jg (wrap .u8 (x3.toInt-97))).bind fun x4=>
  (idx x2.toList x4.toInt).bind fun x5=>
  kn (x5.toInt,wrap .i64 (t14+1))
 else
  kr (x,t14,decide (t14<t13))
noncomputable def Ni (C:af) (w:List UInt8) (t13 iy:Int) (jI kC jg kD kG:LV):=un fun x t14=>Hw C w t13 iy jI kC jg kD kG x t14 (fun y=>some (Sum.inl y)) (fun r=>some (Sum.inr r))
noncomputable def ass (C:af):cx:=br 81 Rn [EQ,H1,EQ,H1,EQ,EQ,EQ,EQ,EQ,EQ] [[1,0,3,0,0,5,6,7,8,9,10]] (@Hw C) bA
theorem ast (C:af):aZ C (ass C) 28 (Lp [1,1,1,0,1,0,0] 28):=bq Rn [EQ,H1,EQ,H1,EQ,EQ,EQ,EQ,EQ,EQ] [[1,0,3,0,0,5,6,7,8,9,10]] (@Hw C) (aR au)
noncomputable def Vd (C:af) (fc:Int) (dI fT fJ fw fU:LV) (w:List UInt8):Option LV:=
 (C Al [.str w,V.int .i64 fc]).bind fun r1=>
 bif !((V.nth r1 0).toBool) then
  some [V.int .i64 (-1)]
 else
  (Loop (Ni C w (w.length:Int) fc dI fT fJ fw fU) (0,0)).bind (un fun x_6=>un fun (oA:Int) (wk:Bool)=>
   some [V.int .i64 x_6])
theorem asu {fc:Int} {dI fT fJ fw fU:LV} {w:List UInt8} {r:Option LV} (h:Vd CC fc dI fT fJ fw fU w=r):CC DZ [V.int .i64 fc,.list ah dI,.list ch fT,.list ae fJ,.list ax fw,.list ax fU,.str w]=r:=bz (aY (ast CC) au) h
noncomputable def Ve (C:af) (fc:Int) (dI fT fJ fw fU:LV) (w:List UInt8):Option LV:=
 (C DY [V.int .i64 fc,.list ah dI,.list ch fT,.list ae fJ,.list ax fw,.list ax fU]).bind fun r1=>
 bif (((V.nth r1 0).toInt):Int) != 0 then
  some [V.int .i64 (-1)]
 else
  (C DZ [V.int .i64 fc,.list ah dI,.list ch fT,.list ae fJ,.list ax fw,.list ax fU,.str w]).bind fun r2=>
  some [V.int .i64 ((V.nth r2 0).toInt)]
theorem asv {fc:Int} {dI fT fJ fw fU:LV} {w:List UInt8} {r:Option LV} (h:Ve CC fc dI fT fJ fw fU w=r):CC DV [V.int .i64 fc,.list ah dI,.list ch fT,.list ae fJ,.list ax fw,.list ax fU,.str w]=r:=bz (L:=bA) au h
section
variable {l:LV} (hl:l.length≤1000000)
include hl
theorem aeS:CC D3 [.list ae l,.list ae l]=some [.bool true]:=by
 refine ar7 ?_;unfold aeJ;refine bF (by simp) (bs (dR l.length (fun i=>(i:Int)) (.inr ((l.length:Int),false)) (fun i hi=> ?_) ?_) rfl)
 ·simp only[U6,Ho];have e:=JO l i;rw[bR hi] at e;refine bT (cd hi) (bs e (bs e (bF (by simp) ?_)));rw[cm (by omega)]
 ·simp only[U6,Ho];rw[aV (az _)];rfl
theorem aeT:CC D4 [.list ax l,.list ax l]=some [.bool true]:=by
 refine asa ?_;unfold aeK;refine bF (by simp) (bs (dR l.length (fun i=>(i:Int)) (.inr ((l.length:Int),false)) (fun i hi=> ?_) ?_) rfl)
 ·simp only[U7,Hp];have e:=JO l i;rw[bR hi] at e;refine bT (cd hi) (bs e (bs e (bF (by simp) ?_)));rw[cm (by omega)]
 ·simp only[U7,Hp];rw[aV (az _)];rfl
theorem asw:CC Kj [.list ch l,.list ch l]=some [.bool true]:=by
 refine ase ?_;unfold aeL;refine bF (by simp) (bs (dR l.length (fun i=>(i:Int)) (.inr ((l.length:Int),false)) (fun i hi=> ?_) ?_) rfl)
 ·simp only[U8,Hq];have e:=JO l i;rw[bR hi] at e;refine bT (cd hi) (bs e (bs e (bF (by simp) ?_)));rw[cm (by omega)]
 ·simp only[U8,Hq];rw[aV (az _)];rfl
end
theorem aeU {l:List Nat} {n:Nat} (hl:l.length≤1000000) (h: ∀y∈l,y<n):CC D8 [.list ae (nS l),.int .i64 (n:Int)]=some [.bool true]:=by
 refine ash ?_;unfold aeM;rw[cI];refine bs (dR l.length (fun i=>(i:Int)) (.inr ((l.length:Int),false)) (fun i hi=> ?_) ?_) rfl
 ·simp only[U9,Hr];refine bT (cd hi) (bs (gb hi) (bF yo (bF (Fk (h _ (cJ hi))) ?_)));rw[cm (by omega)]
 ·simp only[U9,Hr];rw[aV (az _)];rfl
section
variable {m:Da} (hm:m.Ok) {S:List (List Nat)} (hS:td m S) (f:Nat→List UInt8)
def pA (S:List (List Nat)) (i:Nat):List Nat:=(List.range S.length).map fun j=>dz S i j
theorem asx {i:Nat}:(tab S.length fun j=>nV (dz S i j))=nS (pA S i):=by unfold pA nS;rw[pH];rfl
theorem Hy {i:Nat} (hi:i<S.length):idx (ky S) (i:Int)=some (.list ae (nS (pA S i))):=by rw[←asx];exact qg hi
include hm hS
theorem asy {i:Nat} (hi:i<S.length): ∀y∈pA S i,y<S.length:=fun y hy=>by
 obtain ⟨j,hj,rfl⟩:=eu.1 hy;exact aex hm hS hi (fg.1 hj)
theorem asz:CC Kh (qt m S f)=some [.bool true]:=by
 have h1:=hm.l1;have h6:=hm.l6;have hp:=hS.pos;have hle:=hS.le;have e1:(ky S).length=S.length:=eC;have e2:(iM m S).length=m.L:=by unfold iM;rw[cI,eL,cU,jL]
 have e3:(mh m S).length=S.length:=eC;have e4:(jG m.L m.gT S S.length).length=S.length:=eC;refine asl ?_;unfold aeN;rw[e1,e2,e3,e4,eC];refine bF (cO (by omega)) (bF (cO (by omega)) (bF (cO (by omega)) (bF (cO (by omega)) (bF (by simp) (bF (by simp) (bF (by simp) (bF (by simp) ?_)))))));refine bs (dR S.length (fun i=>(i:Int)) (.inr ((S.length:Int),false)) (fun i hi=> ?_) ?_) ?_
 ·simp only[Va,Hs];refine bT (cd hi) (bs (Hy hi) ?_);rw[V.eh];have e5:(nS (pA S i)).length=S.length:=by rw[cI,pA,cU,jL]
  refine bF (by rw[e5];simp) (bs (aeU (by rw[cI] at e5;omega) (asy hm hS hi)) (bF rfl ?_));rw[cm (by omega)]
 ·simp only[Va,Hs];rw[aV (az _)];rfl
 ·refine bs (aeU (l:=eL m.L m.gT S (List.range m.n)) (by rw[eL,cU,jL];omega) fun y hy=> ?_) rfl;obtain ⟨x,hx,rfl⟩:=eu.1 hy;exact km (hS.cl _ (U3 hS) x (fg.1 hx))
omit hm hS in
theorem aeV {x:Nat} (hx:x<m.L):idx (iM m S) (x:Int)=some (nV (vl m S [x])):=by
 unfold iM;rw[gb (by rw[eL,cU,jL];exact hx)];simp[eL,vl,kz]
theorem aeW {i x:Nat} (hi:i<S.length) (hx:x<m.L):idx (nS (pA S i)) (vl m S [x]:Int)=some (nV (cN S (bn m.gT (S.getD i []) x))):=by
 have mE:WL m.L [x]:=WL.nil.cons hx;have h1:=yW hS mE;rw[gb (by rw[pA,cU,jL];exact h1)];obtain ⟨w,hw,rfl⟩:=yY hS hi;have:(pA S (vl m S w))[vl m S [x]]'(by rw[pA,cU,jL];exact h1)=dz S (vl m S w) (vl m S [x]):=by simp[pA]
 rw[this,te hm hS hw mE,yX hS hw];unfold vl kz;rw[zc];rfl
theorem asA:CC Ki (qt m S f)=some (fA (jH m S)):=by
 have h6:=hm.l6;have hle:=hS.le;have e1:(ky S).length=S.length:=eC;have e2:(iM m S).length=m.L:=by unfold iM;rw[cI,eL,cU,jL]
 have e3:(mh m S).length=S.length:=eC;refine aso ?_;unfold aeP;rw[e1,e3];refine bT (cap (b:=0) (by omega) (by omega)) (bT (ga (by omega) (by omega)) ?_);rw[Int.toNat_natCast];have ka: ∀{i:Nat},i<S.length→∀{k1 k2 k3 k4 k5 k6 k7:Int} {l1 l2 l3 l4 l5 l6 l7 l8 l9:LV} {a:LV},a.length=S.length→Loop (Ng CC (i:Int) (nS (pA S i)) l1 k1 k2 (iM m S) (m.L:Int) k3 l2 l3 l4 l5 l6 k4 k5 k6 k7 l7 l8 l9) (0,a.set i (.list ae (List.replicate m.L (V.int .i64 0))))=some ((m.L:Int),false,a.set i (lU m.L ((jH m S).nx i))):=by
  intro i hi k1 k2 k3 k4 k5 k6 k7 l1 l2 l3 l4 l5 l6 l7 l8 l9 a ha;refine sP (fun x b=>((x:Int),a.set i (.list ae b))) m.L (fun x=>nV ((jH m S).nx i x)) _ (by simp) (fun b=>((m.L:Int),false,a.set i (.list ae b))) (fun x hx b hb=> ?_) ?_
  ·simp only[Ng,Ht,un,aq,aD,Int.toNat_natCast];have e0:(a.set i (V.list ae b))[i]? =some (.list ae b):=qw (by rw[ha];exact hi);refine bT (cd hx) (bs (aeV hx) ((cw e0).trans (bs (aeW hm hS hi hx) (bs (oK e0) ?_))));rw[V.eh];refine bT (nz (by rw[hb];exact hx)) (bs (oK e0) ?_);rw[V.eh];refine bs (bR (by rw[hb];exact hx)) ?_;rw[Mr e0,List.set_set,cm (by omega),aeA hi hx];rfl
  ·simp only[Ng,Ht,un];refine bF (aV (az _)) ?_;rw[aV (az _)]
 refine bs (sP (fun i a=>((i:Int),a)) S.length (fun i=>lU m.L ((jH m S).nx i)) _ (by simp) (fun a=>((S.length:Int),false,a)) (fun i hi a ha=> ?_) ?_) ?_
 ·simp only[Vb,Hu,un,aq,aD];refine bT (cd hi) (bs (Hy hi) (bT (ga (by omega) (by omega)) ((rn (by rw[ha];exact hi)).trans ?_)));rw[V.eh,e2,Int.toNat_natCast,Int.toNat_natCast];refine bs (ka hi ha) ?_;rw[cm (by omega)];rfl
 ·simp only[Vb,Hu,un];refine bF (aV (az _)) ?_;rw[aV (az _)]
 ·have e5:mh m S=(jH m S).dH:=by
   unfold mh Da.dH;rw[BP];exact cG fun i hi=>by rw[aez hi]
  have e6:(tab S.length fun i=>lU m.L ((jH m S).nx i))=(jH m S).dX:=by unfold Da.dX;rw[BP];rfl
  rw[e6,e5];rfl
end
section
variable {a:Da} (ha:a.Ok) {S:List (List Nat)} {f:Nat→List UInt8} (hS:td (minD a) S) (Vf:CC ou (fA a)=some (qt (minD a) S f++[.int .i64 0]))
include ha hS Vf
theorem asB:CC DY (qt (minD a) S f)=some [.int .i64 0]:=by
 have hm:=qq ha;have hle:=hS.le;have hL6:=hm.l6;have hO:CC ou (fA (jH (minD a) S))=some (qt (minD a) S f++[.int .i64 0]):=(arS (aeB hm hS) ha (arR ha hS)).trans Vf;have fin: ∀z,Vc CC ((minD a).L:Int) (ky S) (tab S.length fun j=> .str (f j)) (iM (minD a) S) (mh (minD a) S) (jG (minD a).L (minD a).gT S S.length)=z→CC DY (qt (minD a) S f)=z:=fun z h=>asr h;refine fin _ ?_;unfold Vc;refine bs (asz hm hS f) (bF rfl (bs (asA hm hS f) (bs hO (bF rfl (bF (by simp[qt]) ?_)))));have e1:(ky S).length=S.length:=eC;refine bs (a:= .inr ((S.length:Int),false)) ?_ ?_
 ·show Loop (Nh CC (ky S) ((ky S).length:Int) _ _ _ _ _ _ _ _ _ _ _ _) 0=_;rw[e1];refine dR S.length (fun i=>(i:Int)) _ (fun i hi=> ?_) ?_
  ·simp only[Nh,Hv];refine bT (cd hi) (bs (Hy hi) (bs (Hy hi) (bs (aeS (by rw[V.eh,cI,pA,cU,jL];omega)) (bF rfl ?_))));rw[cm (by omega)]
  ·simp only[Nh,Hv];rw[aV (az _)];rfl
 ·have e2:(iM (minD a) S).length=(minD a).L:=by unfold iM;rw[cI,eL,cU,jL]
  refine bs (asw (l:=tab S.length fun j=> .str (f j)) (by simp;omega)) (bF rfl (bs (aeS (l:=iM (minD a) S) (by omega)) (bF rfl (bs (aeT (l:=mh (minD a) S) (by simp[mh];omega)) (bF rfl (bs (aeT (l:=jG (minD a).L (minD a).gT S S.length) (by simp[jG];omega)) (bF rfl rfl)))))))
theorem asC {w:List UInt8} (hw:kj w ((minD a).L:Int)):CC DV (qt (minD a) S f++[.str w])=some [.int .i64 (vl (minD a) S (lets w):Int)]:=by
 have hm:=qq ha;have hle:=hS.le;have hlen:=hw.2.2.1;have fin: ∀z,Ve CC ((minD a).L:Int) (ky S) (tab S.length fun j=> .str (f j)) (iM (minD a) S) (mh (minD a) S) (jG (minD a).L (minD a).gT S S.length) w=z→CC DV (qt (minD a) S f++[.str w])=z:=fun z h=>asv h;have asD: ∀z,Vd CC ((minD a).L:Int) (ky S) (tab S.length fun j=> .str (f j)) (iM (minD a) S) (mh (minD a) S) (jG (minD a).L (minD a).gT S S.length) w=z→CC DZ (qt (minD a) S f++[.str w])=z:=fun z h=>asu h;have hWL:=hw.WL;have hv:CC DZ (qt (minD a) S f++[.str w])=some [.int .i64 (vl (minD a) S (lets w):Int)]:=by
  refine asD _ ?_;unfold Vd;refine bs ((SV w _).trans (by rw[cW hw])) (bF rfl ?_);have key:Loop (Ni CC w (w.length:Int) ((minD a).L:Int) (ky S) (tab S.length fun j=> .str (f j)) (iM (minD a) S) (mh (minD a) S) (jG (minD a).L (minD a).gT S S.length)) (((vl (minD a) S ((lets w).take 0):Nat):Int),0)=some (((vl (minD a) S (lets w):Nat):Int),(w.length:Int),false):=by
   refine dR w.length (fun i=>(((vl (minD a) S ((lets w).take i):Nat):Int),(i:Int))) _ (fun i hi=> ?_) ?_
   ·simp only[Ni,Hw,un];have hT:WL (minD a).L ((lets w).take i):=fun x hx=>hWL x (HO hx);have ju:i<(lets w).length:=by rw[wm];exact hi
    have hx:(lets w).getD i 0<(minD a).L:=abP hw hi;have h1:=yW hS hT;refine bT (cd hi) (bs (Hy h1) (bs (Lu hi) ?_));rw[show wrap .u8 ((V.int .u8 (((w.getD i 0).toNat:Nat):Int)).toInt-97)=(((lets w).getD i 0:Nat):Int) from by
     rw[SX hi (hw.2.2.2 i hi).1];exact Lv (hw.2.2.2 i hi).1]
    refine bs (aeV hx) ?_;rw[V.eh];refine bs (aeW hm hS h1 hx) ?_;rw[cm (by omega)];have e:vl (minD a) S ((lets w).take (i+1))=cN S (bn (minD a).gT (S.getD (vl (minD a) S ((lets w).take i)) []) ((lets w).getD i 0)):=by
     rw[yX hS hT,HW ju,←bC (d:=0) ju];unfold vl kz;rw[zc];rfl
    rw[e];rfl
   ·simp only[Ni,Hw,un];refine bF (aV (az _)) ?_;rw[aV (az _),show w.length=(lets w).length from wm.symm,u6]
  rw[List.take_zero,BO hS] at key;exact bs key rfl
 refine fin _ ?_;unfold Ve;exact bs (asB ha hS Vf) (bF rfl (bs hv rfl))
end
noncomputable def Hz (C:af) (w:List UInt8) (dh i:Int) {β:Type} (kn:Int→Option β) (kr:((Bool) ⊕ (Int×Bool))→Option β):Option β:=
 bif decide (i<(w.length:Int)) then
  (bif decide (0≤i) then (w[i.toNat]?).map fun b=>V.int .u8 b.toNat else none).bind fun x2=>
  bif decide ((x2.toInt:Int)<97) then
  kr (.inl false)
  else
  (bif decide (0≤i) then (w[i.toNat]?).map fun b=>V.int .u8 b.toNat else none).bind fun x3=>
  bif decide (((wrap .i64 (wrap .u8 (x3.toInt-97))):Int)≥dh) then
   kr (.inl false)
  else
   kn (wrap .i64 (i+1))
 else
  kr (.inr (i,decide (i<(w.length:Int))))
noncomputable def Nj (C:af) (w:List UInt8) (dh:Int):=fun i=>Hz C w dh i (fun y=>some (Sum.inl y)) (fun r=>some (Sum.inr r))
noncomputable def asE (C:af):cx:=br 65 QS [EQ,EQ,H1] [[0],[1,2,0,0]] (@Hz C) bA
theorem asF (C:af):aZ C (asE C) 6 (Lp [1,1,0,1,0,0] 6):=bq QS [EQ,EQ,H1] [[0],[1,2,0,0]] (@Hz C) (aR au)
noncomputable def aeX (C:af) (w:List UInt8) (dh:Int):Option LV:=
 (C DW [V.int .i64 dh]).bind fun r1=>
 bif !((V.nth r1 0).toBool) then
  some [.bool false]
 else
  bif decide ((w.length:Int)>2048) then
  some [.bool false]
  else
  (Loop (Nj C w dh) 0).bind (cM (fun (gP:Bool)=>
   some [.bool gP]) (un fun (i_5:Int) (oz:Bool)=>
   some [.bool true]))
theorem asG {w:List UInt8} {dh:Int} {r:Option LV} (h:aeX CC w dh=r):CC DU [.str w,V.int .i64 dh]=r:=bz (aY (asF CC) au) h
theorem asH {w:List UInt8} {L:Int} (hl:w.length≤2048):Loop (Nj CC w L) 0=some (if∀i,i<w.length→0≤fF w i∧fF w i<L then .inr ((w.length:Int),false) else .inl false):=by
 refine AT (good:=fun i=>0≤fF w i∧fF w i<L) w.length (fun i=>(i:Int)) (Sum.inl false:Bool ⊕ (Int×Bool)) (Sum.inr ((w.length:Int),false)) (fun i hi=> ?_) ?_
 ·simp only[Nj,Hz,un];rw[bu,bt,Lu hi];simp only[Option.bind_some,V.toInt_int,bu];by_cases h1:0≤fF w i
  ·have kV:=h1;unfold fF at kV;rw[bN,Lv h1,wrap64 (by omega) (by have:= @abN w i;omega)];by_cases h2:fF w i<L
   ·rw[bN,ak ⟨h1,h2⟩,gB];simp
   ·rw[bt,aj (fun h=>h2 h.2)]
  ·have kV:=h1;unfold fF at kV;rw[bt,aj (fun h=>h1 h.1)]
 ·simp only[Nj,Hz,un];rw[bu,bN];simp
theorem asI (w:List UInt8) (L:Int):CC DU [.str w,.int .i64 L]=some [.bool (decide (kj w L))]:=by
 refine asG ?_;unfold aeX;rw[abG];simp only[Option.bind_some,V.dF,V.dP,iY,bu];by_cases h1: ¬(1≤L∧L≤6)
 ·rw[aj h1,cO (fun h=>h1 ⟨h.1,h.2.1⟩)]
 have h1:=Classical.not_not.1 h1;rw[ak h1];by_cases h3:(w.length:Int)>2048
 ·rw[ak h3,cO (fun h=>by have:=h.2.2.1;omega)]
 rw[aj h3,asH (by omega)];by_cases h4: ∀i,i<w.length→0≤fF w i∧fF w i<L
 ·rw[ak h4,cW (show kj w L from ⟨h1.1,h1.2,by omega,h4⟩)];simp[cM,un]
 ·rw[aj h4,cO (fun h=>h4 h.2.2.2)];simp[cM,un]
end Go.AM
set_option maxRecDepth 100000
namespace Go.AM
open Go.IntKind (wrap)
theorem WT.Vg {P:Program} {t:TypeId} {x:V} (hu:P.underlying t=some (.int .i64)) (h:WT P t x): ∃n:Int,x= .int .i64 n∧ -9223372036854775808≤n∧n≤9223372036854775807:=by
 obtain ⟨n,rfl,h1,h2⟩:=h.fq hu;have e1:IntKind.min .i64= -9223372036854775808:=by decide
 have e2:IntKind.max .i64=9223372036854775807:=by decide
 rw[e1] at h1;rw[e2] at h2;exact ⟨n,rfl,h1,h2⟩
theorem WT.O4 {P:Program} {t:TypeId} {x:V} (hu:P.underlying t=some (.int .u8)) (h:WT P t x): ∃n:Int,x= .int .u8 n∧0≤n∧n≤255:=by
 obtain ⟨n,rfl,h1,h2⟩:=h.fq hu;have e1:IntKind.min .u8=0:=by decide
 have e2:IntKind.max .u8=255:=by decide
 rw[e1] at h1;rw[e2] at h2;exact ⟨n,rfl,h1,h2⟩
end Go.AM
set_option maxRecDepth 100000
namespace Go.AM
open Go.IntKind (wrap)
open Go.Proofs
theorem asJ {α:Type} {l:List α} (h:l.length=4): ∃a b c d,l=[a,b,c,d]:=by
 match l,h with
 | [a,b,c,d],_=>exact ⟨a,b,c,d,rfl⟩
theorem asK {x:V} (h:iE Tryz.prog ah x): ∃r:List Int,x=lT r∧(r.length≤maxLen∧∀q∈r,-9223372036854775808≤q∧q≤9223372036854775807):=by
 have hu:Tryz.prog.underlying ah=some (.slice ae):=by kernel_rfl
 have hi:Tryz.prog.underlying ae=some (.int .i64):=by kernel_rfl
 obtain ⟨es,rfl,e1,e2⟩:=WT.JQ hu (iE.one (by kernel_rfl) h);obtain ⟨r,rfl,hr⟩:=JR (f:=iV) (p:=fun q=> -9223372036854775808≤q∧q≤9223372036854775807) fun y hy=>WT.Vg hi (iE.one (by kernel_rfl) (e2 y hy));exact ⟨r,rfl,by simpa using e1,hr⟩
def Df.enc (d:Df):V:= .agg (rI d [])
theorem afa {t:TypeId} {x:V} (ha:b8 Tryz.prog t=true) (he:aN Tryz.prog t=[ae,ae,kh,Qg]) (h:iE Tryz.prog t x): ∃d:Df,x=d.enc∧d.Ok:=by
 obtain ⟨xs,rfl,hl,hx⟩:=iE.lF ha h;rw[he] at hl;obtain ⟨a,b,c,d,rfl⟩:=asJ hl;have hu:Tryz.prog.underlying ae=some (.int .i64):=by kernel_rfl
 have hb:Tryz.prog.underlying ax=some .bool:=by kernel_rfl
 have hv:Tryz.prog.underlying kh=some (.slice ax):=by kernel_rfl
 have hw:Tryz.prog.underlying Qg=some (.slice ah):=by kernel_rfl
 obtain ⟨L,rfl,l1,l2⟩:=WT.Vg hu (hx 0 ae a (by rw[he];rfl) rfl);obtain ⟨S,rfl,s1,s2⟩:=WT.Vg hu (hx 1 ae b (by rw[he];rfl) rfl);obtain ⟨fs,rfl,f1,f2⟩:=WT.JQ hv (hx 2 kh c (by rw[he];rfl) rfl);obtain ⟨ns,rfl,n1,n2⟩:=WT.JQ hw (hx 3 Qg d (by rw[he];rfl) rfl);obtain ⟨F,rfl⟩:=Y0 (f:=V.bool) fun y hy=>WT.kW hb (iE.one (by kernel_rfl) (f2 y hy));obtain ⟨N,rfl,hN⟩:=JR (f:=lT) fun y hy=>asK (n2 y hy);exact ⟨⟨L,S,F,N⟩,rfl,l1,l2,s1,s2,by simpa using f1,by simpa using n1,hN⟩
def y4 (l:List (List UInt8)):V:= .list ch (l.map V.str)
theorem afb {t:TypeId} {x:V} (hu:Tryz.prog.underlying t=some (.slice ch)) (hn:b8 Tryz.prog t=false) (h:iE Tryz.prog t x): ∃l:List (List UInt8),x=y4 l∧l.length≤maxLen∧∀w∈l,w.length≤maxLen:=by
 have hs:Tryz.prog.underlying ch=some .string:=by kernel_rfl
 obtain ⟨es,rfl,e1,e2⟩:=WT.JQ hu (iE.one hn h);obtain ⟨l,rfl,hl⟩:=JR (f:=V.str) (p:=fun w=>w.length≤maxLen) fun y hy=>iE.str hs (e2 y hy);exact ⟨l,rfl,by simpa using e1,hl⟩
noncomputable def HA (C:af) (cP t33:LV) (t34 cC cT:Int) (dG dw:LV) (nD nE iH iI:Int) (aI bh bp aS:LV) (t35:Int) {β:Type} (kn:Int→Option β) (kr:((Int×Int×Int×LV×LV) ⊕ (Int×Bool))→Option β):Option β:=
 bif decide (t35<t34) then
  (idx t33 t35).bind fun x2=>
  (C Al [.str x2.toStr,V.int .i64 cC]).bind fun r3=>
  bif !((V.nth r3 0).toBool) then
  kr (.inl (1,0,0,([]:LV),([]:LV)))
  else
  kn (wrap .i64 (t35+1))
 else
  kr (.inr (t35,decide (t35<t34)))
noncomputable def Vh (C:af) (cP t33:LV) (t34 cC cT:Int) (dG dw:LV) (nD nE iH iI:Int) (aI bh bp aS:LV):=fun t35=>HA C cP t33 t34 cC cT dG dw nD nE iH iI aI bh bp aS t35 (fun y=>some (Sum.inl y)) (fun r=>some (Sum.inr r))
noncomputable def HB (C:af) (cP:LV) (q t55 t56:Int) (t62:LV) (t63 nD nE iH iI ta tc:Int) (bh bp aS bd bJ:LV) (t64:Int) (rows:LV) {β:Type} (kn:(Int×LV)→Option β) (kr:(Int×Bool×LV)→Option β):Option β:=
 bif decide (t64<t63) then
  (idx t62 t64).bind fun nG=>
  (C J7 [V.int .i64 iH,V.int .i64 iI,.list ax aS,.list ah bd,V.int .i64 q,.str nG.toStr]).bind fun ma=>
  aq rows t64 fun uR=>
  kn (wrap .i64 (t64+1),aD rows t64 (V.int .i64 ((V.nth ma 0).toInt)))
 else
  kr (t64,decide (t64<t63),rows)
noncomputable def Vi (C:af) (cP:LV) (q t55 t56:Int) (t62:LV) (t63 nD nE iH iI ta tc:Int) (bh bp aS bd bJ:LV):=un fun t64 rows=>HB C cP q t55 t56 t62 t63 nD nE iH iI ta tc bh bp aS bd bJ t64 rows (fun y=>some (Sum.inl y)) (fun r=>some (Sum.inr r))
noncomputable def HC (C:af) (cP:LV) (t55 nD nE iH iI ta tc:Int) (aI bh bp aS:LV) (t56:Int) (bd:LV) {β:Type} (kn:(Int×LV)→Option β) (kr:(Int×Bool×LV)→Option β):Option β:=
 bif decide (t56<t55) then
  bif (decide (0≤(cP.length:Int)))&&((decide ((cP.length:Int)≤(cP.length:Int)))&&(Nat.ble (((cP.length:Int).toNat)*8) bm)) then
  (Loop (Vi C cP t56 t55 t56 cP (cP.length:Int) nD nE iH iI ta tc aI bh bp aS bd) (0,List.replicate ((cP.length:Int).toNat) (V.int .i64 0))).bind (un fun sS=>un fun (ac3:Bool) (aeY:LV)=>
   bif Nat.ble ((bd.length+([.list ae aeY]:LV).length)*24) bm then
    kn (wrap .i64 (t56+1),bd++([.list ae aeY]:LV))
   else none)
  else none
 else
  kr (t56,decide (t56<t55),bd)
noncomputable def Nk (C:af) (cP:LV) (t55 nD nE iH iI ta tc:Int) (aI bh bp aS:LV):=un fun t56 bd=>HC C cP t55 nD nE iH iI ta tc aI bh bp aS t56 bd (fun y=>some (Sum.inl y)) (fun r=>some (Sum.inr r))
noncomputable def Vj (C:af):cx:=br 113 QT [EQ,EQ,EQ,H1,EQ,EQ,EQ,EQ,EQ,EQ,EQ,EQ,EQ,EQ,EQ,EQ] [[0,0,0,0,0],[1,2,3,0,0,5,6,7,8,9,10,11,12,13,14,15,16]] (@HA C) (br 289 QU [EQ,EQ,EQ,EQ,EQ,EQ,H1,EQ,EQ,EQ,EQ,EQ,EQ,H1,EQ,EQ,EQ,EQ,EQ] [[1,2,3,4,5,6,0,0,8,9,10,11,12,13,0,15,16,17,18,19]] (@HB C) (br 225 QV [EQ,EQ,H1,EQ,EQ,EQ,EQ,EQ,EQ,EQ,EQ,EQ,EQ,H1] [[1,2,0,0,4,5,6,7,8,9,10,11,12,13,0]] (@HC C) bA))
theorem asL (C:af):aZ C (Vj C) 7 (Lp [1,1,1,1,0,1,0,0] 7):=bq QT [EQ,EQ,EQ,H1,EQ,EQ,EQ,EQ,EQ,EQ,EQ,EQ,EQ,EQ,EQ,EQ] [[0,0,0,0,0],[1,2,3,0,0,5,6,7,8,9,10,11,12,13,14,15,16]] (@HA C) (aR au)
theorem asM (C:af):aZ C (Vj C) 7 (Lp [1,1,1,1,1,1,0,1,0,0,1,1,0,0,1,1,0,1,0,0] 7):=bq QU [EQ,EQ,EQ,EQ,EQ,EQ,H1,EQ,EQ,EQ,EQ,EQ,EQ,H1,EQ,EQ,EQ,EQ,EQ] [[1,2,3,4,5,6,0,0,8,9,10,11,12,13,0,15,16,17,18,19]] (@HB C) (aR au)
theorem asN (C:af):aZ C (Vj C) 7 (Lp [1,1,1,1,1,1,0,1,0,0] 7):=bq QV [EQ,EQ,H1,EQ,EQ,EQ,EQ,EQ,EQ,EQ,EQ,EQ,EQ,H1] [[1,2,0,0,4,5,6,7,8,9,10,11,12,13,0]] (@HC C) (aR (aY (asM C) au))
noncomputable def aeZ (C:af) (bV cb:Int) (bG bZ cP:LV):Option LV:=
 (C J6 [V.int .i64 bV,V.int .i64 cb,.list ax bG,.list ah bZ]).bind fun r1=>
 bif (((V.nth (r1.drop 2) 0).toInt):Int) != 0 then
  some [V.int .i64 0,V.int .i64 0,V.int .i64 ((V.nth (r1.drop 2) 0).toInt),.list ax ([]:LV),.list ah ([]:LV)]
 else
  bif decide ((cP.length:Int)<1) then
  some [V.int .i64 0,V.int .i64 0,V.int .i64 1,.list ax ([]:LV),.list ah ([]:LV)]
  else
  bif decide ((cP.length:Int)>6) then
   some [V.int .i64 0,V.int .i64 0,V.int .i64 1,.list ax ([]:LV),.list ah ([]:LV)]
  else
   (Loop (Vh C cP cP (cP.length:Int) bV cb bG bZ 0 0 ((V.nth r1 0).toInt) ((V.nth (r1.drop 1) 0).toInt) ([]:LV) ([]:LV) ((V.nth (r1.drop 3) 0).toList) ((V.nth ((r1.drop 3).drop 1) 0).toList)) 0).bind (cM (un fun gP=>un fun TL=>un fun TM=>un fun (FC:LV) (wx:LV)=>
    some [V.int .i64 TL,V.int .i64 TM,V.int .i64 gP,.list ax FC,.list ah wx]) (un fun (mL:Int) (LJ:Bool)=>
    (Loop (Nk C cP (((V.nth (r1.drop 3) 0).toList).length:Int) 0 0 ((V.nth r1 0).toInt) ((V.nth (r1.drop 1) 0).toInt) (cP.length:Int) ((V.nth (r1.drop 1) 0).toInt) ([]:LV) ([]:LV) ((V.nth (r1.drop 3) 0).toList) ((V.nth ((r1.drop 3).drop 1) 0).toList)) (0,([]:LV))).bind (un fun T8=>un fun (ac5:Bool) (rm:LV)=>
     (C uu [V.int .i64 (cP.length:Int),V.int .i64 ((V.nth (r1.drop 1) 0).toInt),.list ax ((V.nth (r1.drop 3) 0).toList),.list ah rm]).bind fun jf=>
     some [V.int .i64 ((V.nth jf 0).toInt),V.int .i64 ((V.nth (jf.drop 1) 0).toInt),V.int .i64 0,.list ax ((V.nth (jf.drop 2) 0).toList),.list ah ((V.nth ((jf.drop 2).drop 1) 0).toList)])))
theorem asO {bV cb:Int} {bG bZ cP:LV} {r:Option LV} (h:aeZ CC bV cb bG bZ cP=r):CC JY [V.int .i64 bV,V.int .i64 cb,.list ax bG,.list ah bZ,.list ch cP]=r:=bz (aY (asL CC) (aY (asN CC) au)) h
section
variable {a:Da} (h:a.Ok) {w:List UInt8}
include h
end
section
variable {d:Df} (h:d.Ok) (hv:d.val≠0)
include h hv
end
theorem BQ {l:List (List UInt8)} {i:Nat} (h:i<l.length):idx (l.map V.str) (i:Int)=some (.str (l.getD i [])):=EU h
def BR (l:List (List UInt8)) (L:Int):Prop:= ∀i,i<l.length→kj (l.getD i []) L
instance (l:List (List UInt8)) (L:Int):Decidable (BR l L):=by unfold BR;infer_instance
def gC (l:List (List UInt8)) (x:Nat):List Nat:=lets (l.getD x [])
theorem ae0 {m:Da} {l:List (List UInt8)}:(m.pre l.length (gC l)).dH=m.dH∧(m.pre l.length (gC l)).dX=tab m.n fun q=>lU l.length fun x=>m.run q (gC l x):=by
 refine ⟨rfl,?_⟩;unfold Da.dX;rw[Da.arT];refine cG fun q hq=> ?_;unfold lU;exact congrArg _ (cG fun x hx=>by rw[Da.aeE hq (show x<l.length from hx)])
section
variable {a:Da} (h:a.Ok) {l:List (List UInt8)}
include h
theorem asP (hl:l.length≤6) (ar:BR l (a.L:Int)) {k1 k2 k3 k4:Int} {l1 l2:List V}:
  Loop (Nk CC (l.map V.str) ((minD a).n:Int) k1 k2 ((minD a).L:Int) ((minD a).st:Int) k3 k4 l1 l2 (minD a).dH (minD a).dX) (0,([]:List V))=some (((minD a).n:Int),false,tab (minD a).n fun q=>lU l.length fun x=>(minD a).run q (gC l x)):=by
 have hm:=qq h;have hn:=hm.jc;refine (dR (minD a).n (fun i=>((i:Int),(tab i fun q=>lU l.length fun x=>(minD a).run q (gC l x)))) _ (fun q hq=> ?_) ?_)
 ·simp only[Nk,HC,un];refine bT (cd hq) ?_;rw[cU];refine bT (ga (by omega) (by omega)) ?_;rw[Int.toNat_natCast,mM];refine bs (dR l.length (fun t=>((t:Int),(tab l.length fun x=>if x<t then nV ((minD a).run q (gC l x)) else V.int .i64 0))) ((l.length:Int),false,(tab l.length fun x=>nV ((minD a).run q (gC l x)))) (fun t ht=> ?_) ?_) ?_
  ·have xn:kj (l.getD t []) ((minD a).L:Int):=by rw[qs h];exact ar t ht
   have hr:=alN hm hq (l.getD t []);rw[ak xn] at hr;simp only[Vi,HB,un];refine bT (cd ht) ?_;refine bs (BQ ht) ?_;refine bs hr ?_;refine (lg (i:=t) ht).trans ?_;rw[cm (by omega)];simp only[aD,Int.toNat_natCast];exact congrArg (fun x=>some (Sum.inl (((t+1:Nat):Int),x))) (arF (f:=fun x=>nV ((minD a).run q (gC l x))) rfl)
  ·simp only[Vi,HB,un];refine bF (aV (az _)) ?_;rw[aV (az _)];exact congrArg (fun x=>some (Sum.inr ((l.length:Int),false,x))) (arG (f:=fun x=>nV ((minD a).run q (gC l x))))
  ·simp only[un];refine bT (cap (by rw[eC];simp;omega) (by omega)) ?_;rw[cm (by omega),EV];rfl
 ·simp only[Nk,HC,un];refine bF (aV (az _)) ?_;rw[aV (az _)]
theorem asQ (h1:1≤l.length) (hl:l.length≤6) (ar:BR l (a.L:Int)):CC JY (uH a [y4 l])=some (UY (minD ((minD a).pre l.length (gC l))) 0):=by
 have hm:=qq h;refine asO ?_;unfold aeZ;refine bs (arI h) (bF rfl ?_);rw[cU];refine bF (cO (by omega)) (bF (cO (by omega)) ?_);refine bs (dR l.length (fun i=>(i:Int)) (.inr ((l.length:Int),false)) (fun i hi=> ?_) ?_) ?_
 ·simp only[Vh,HA];refine bT (cd hi) ?_;refine bs (BQ hi) ?_;refine bs (SV _ _) ?_;refine bF (show (!(decide (kj (l.getD i []) (a.L:Int))))=false by rw[cW (ar i hi)];rfl) ?_;rw[cm (by omega)]
 ·simp only[Vh,HA];refine bF (aV (az _)) ?_;rw[aV (az _)]
 ·simp only[cM,un];have e0:((V.nth ((UY (minD a) 0).drop 3) 0).toList).length=(minD a).n:=by show (minD a).dH.length=_;simp
  rw[e0];refine bs (asP h hl ar) ?_;have hM:=Be (hm.pre (k:=l.length) (g:=gC l) h1 hl fun x hx=>by rw[qs h];exact (ar x hx).WL);unfold fA uH at hM;rw[ae0.1,ae0.2] at hM;refine bs hM ?_;rfl
end
noncomputable def asR (C:af) (x:Int):Option LV:=
 some [V.int .i64 3,V.int .i64 x,.list cg ([]:LV)]
theorem asS {x:Int} {r:Option LV} (h:asR CC x=r):CC Ak [V.int .i64 x]=r:=bz (L:=bA) au h
noncomputable def asT (C:af) (op:Int) (kids:LV):Option LV:=
 some [V.int .i64 op,V.int .i64 0,.list cg kids]
theorem ae1 {op:Int} {kids:LV} {r:Option LV} (h:asT CC op kids=r):CC J5 [V.int .i64 op,.list cg kids]=r:=bz (L:=bA) au h
noncomputable def yZ (C:af) (nD nE:Int) (aH aI:LV) (bM bX:Int) (bh bp aS:LV) {β:Type} (kn:(Int×Int×LV×LV×LV)→Option β) (kr:((Int×Int×Int×LV×LV) ⊕ (Bool×Int×Int×LV×LV×LV))→Option β):Option β:=
 (C Qb [V.int .i64 bM,V.int .i64 bX,.list cg bh,.list ah bp,.list cz aS]).bind fun r4=>
 bif !((V.nth r4 0).toBool) then
  (C An [V.int .i64 ((V.nth (r4.drop 1) 0).toInt),V.int .i64 ((V.nth ((r4.drop 1).drop 1) 0).toInt),.list cg ((V.nth (((r4.drop 1).drop 2).drop 1) 0).toList),.list ah ((V.nth ((((r4.drop 1).drop 2).drop 1).drop 1) 0).toList),.list cz ((V.nth ((r4.drop 1).drop 2) 0).toList)]).bind fun r5=>
  bif (((V.nth r5 0).toInt):Int) != 0 then
  kr (.inl ((V.nth r5 0).toInt,0,0,([]:LV),([]:LV)))
  else
  kn ((V.nth (r5.drop 1) 0).toInt,(V.nth ((r5.drop 1).drop 1) 0).toInt,(V.nth (((r5.drop 1).drop 2).drop 1) 0).toList,(V.nth ((((r5.drop 1).drop 2).drop 1).drop 1) 0).toList,(V.nth ((r5.drop 1).drop 2) 0).toList)
 else
  kr (.inr (!((V.nth r4 0).toBool),(V.nth (r4.drop 1) 0).toInt,(V.nth ((r4.drop 1).drop 1) 0).toInt,(V.nth (((r4.drop 1).drop 2).drop 1) 0).toList,(V.nth ((((r4.drop 1).drop 2).drop 1).drop 1) 0).toList,(V.nth ((r4.drop 1).drop 2) 0).toList))
noncomputable def uV (C:af) (nD nE:Int) (aH aI:LV):=un fun bM=>un fun bX=>un fun bh=>un fun bp aS=>yZ C nD nE aH aI bM bX bh bp aS (fun y=>some (Sum.inl y)) (fun r=>some (Sum.inr r))
noncomputable def asU (C:af):cx:=br 81 Q9 [EQ,EQ,H1,H1,EQ,EQ,H1,H1,H1] [[0,0,0,0,0],[0,1,2,0,0,5,6,0,0,0]] (@yZ C) bA
theorem asV (C:af):aZ C (asU C) 15 (Lp [1,1,1,0,0,0] 15):=bq Q9 [EQ,EQ,H1,H1,EQ,EQ,H1,H1,H1] [[0,0,0,0,0],[0,1,2,0,0,5,6,0,0,0]] (@yZ C) (aR au)
noncomputable def ae2 (C:af) (HD HE:Int) (HF:LV) (dh:Int):Option LV:=
 (C P8 [V.int .i64 HD,V.int .i64 HE,.list cg HF,V.int .i64 dh]).bind fun r1=>
 bif (((V.nth r1 0).toInt):Int) != 0 then
  some [V.int .i64 0,V.int .i64 0,V.int .i64 ((V.nth r1 0).toInt),.list ax ([]:LV),.list ah ([]:LV)]
 else
  (C Qa [V.int .i64 HD,V.int .i64 HE,.list cg HF]).bind fun r2=>
  (C P9 [V.int .i64 ((V.nth r2 0).toInt),V.int .i64 ((V.nth (r2.drop 1) 0).toInt),.list cg ((V.nth ((r2.drop 1).drop 1) 0).toList),V.int .i64 dh]).bind fun r3=>
  (Loop (uV C 0 0 ([]:LV) ([]:LV)) ((V.nth r3 0).toInt,(V.nth (r3.drop 1) 0).toInt,(V.nth (r3.drop 2) 0).toList,(V.nth ((r3.drop 2).drop 1) 0).toList,(V.nth (((r3.drop 2).drop 1).drop 1) 0).toList)).bind (cM (un fun oz=>un fun TN=>un fun asW=>un fun (A8:LV) (ph:LV)=>
   some [V.int .i64 TN,V.int .i64 asW,V.int .i64 oz,.list ax A8,.list ah ph]) (un fun (wz:Bool)=>un fun TH=>un fun TI=>un fun (qh:LV)=>un fun (FD:LV) (yw:LV)=>
   (C Qc [V.int .i64 TH,V.int .i64 TI,.list cg qh,.list ah FD,.list cz yw]).bind fun fv=>
   some [V.int .i64 ((V.nth fv 0).toInt),V.int .i64 ((V.nth (fv.drop 1) 0).toInt),V.int .i64 0,.list ax ((V.nth (((fv.drop 2).drop 2).drop 1) 0).toList),.list ah ((V.nth ((((fv.drop 2).drop 2).drop 1).drop 1) 0).toList)]))
theorem asX {HD HE:Int} {HF:LV} {dh:Int} {r:Option LV} (h:ae2 CC HD HE HF dh=r):CC J4 [V.int .i64 HD,V.int .i64 HE,.list cg HF,V.int .i64 dh]=r:=bz (aY (asV CC) au) h
noncomputable def asY (C:af) (bM bX:Int) (aP aH aI:LV):Option LV:=
 some [.bool (bX==(aP.length:Int)),V.int .i64 bM,V.int .i64 bX,.list cz aI,.list cg aP,.list ah aH]
theorem Nl {bM bX:Int} {aP aH aI:LV} {r:Option LV} (h:asY CC bM bX aP aH aI=r):CC Qb [V.int .i64 bM,V.int .i64 bX,.list cg aP,.list ah aH,.list cz aI]=r:=bz (L:=bA) au h
noncomputable def uW (C:af) (t16 t17 bM bX:Int) (aI rows bp aS:LV) {β:Type} (kn:(Int×Int×Int×LV×LV×LV×LV)→Option β) (kr:((Int×Int×Int×LV×LV×LV) ⊕ (Int×Bool×Int×Int×LV×LV×LV×LV))→Option β):Option β:=
 bif decide (t17<t16) then
  aq bp bX fun x1=>
  (C vV [V.int .i64 ((x1.cell 0).toInt),V.int .i64 ((x1.cell 1).toInt),.list cg ((x1.cell 2).toList),V.int .i64 t17]).bind fun r2=>
  bif (((V.nth (r2.drop 3) 0).toInt):Int) != 0 then
  kr (.inl ((V.nth (r2.drop 3) 0).toInt,bM,bX,aI,bp,aS))
  else
  (C vW [V.int .i64 ((V.nth r2 0).toInt),V.int .i64 ((V.nth (r2.drop 1) 0).toInt),.list cg ((V.nth ((r2.drop 1).drop 1) 0).toList)]).bind fun r3=>
  bif Nat.ble (((V.nth r3 0).toStr).length) maxLen&&true then
   bif !(fB (.str ((V.nth r3 0).toStr)) aI) then
   bif (bp.length:Int)==512 then
    kr (.inl (3,bM,bX,aI,bp,aS))
   else
    (C Ko [V.int .i64 ((V.nth r2 0).toInt),V.int .i64 ((V.nth (r2.drop 1) 0).toInt),.list cg ((V.nth ((r2.drop 1).drop 1) 0).toList),V.int .i64 bM,V.int .i64 bX,.list cg bp,.list ah aS,.list cz aI]).bind fun r4=>
    aq rows t17 fun x5=>
    kn (wrap .i64 (t17+1),(V.nth (r4.drop 1) 0).toInt,(V.nth ((r4.drop 1).drop 1) 0).toInt,(V.nth ((r4.drop 1).drop 2) 0).toList,aD rows t17 (V.int .i64 ((V.nth r4 0).toInt)),(V.nth (((r4.drop 1).drop 2).drop 1) 0).toList,(V.nth ((((r4.drop 1).drop 2).drop 1).drop 1) 0).toList)
   else
   aq rows t17 fun x6=>
   kn (wrap .i64 (t17+1),bM,bX,aI,aD rows t17 (V.int .i64 ((jl (.str ((V.nth r3 0).toStr)) aI (V.int .i64 0)).toInt)),bp,aS)
  else none
 else
  kr (.inr (t17,decide (t17<t16),bM,bX,aI,rows,bp,aS))
noncomputable def pB (C:af) (t16:Int):=un fun t17=>un fun bM=>un fun bX=>un fun aI=>un fun rows=>un fun bp aS=>uW C t16 t17 bM bX aI rows bp aS (fun y=>some (Sum.inl y)) (fun r=>some (Sum.inr r))
noncomputable def asZ (C:af):cx:=br 49 Rs [EQ,H1,H1,H1,H1,H1,H1,H1] [[0,0,0,0,0,0],[1,0,0,0,0,0,0,0,0]] (@uW C) bA
theorem as0 (C:af):aZ C (asZ C) 42 (Lp [1,1,0,1,0,0] 42):=bq Rs [EQ,H1,H1,H1,H1,H1,H1,H1] [[0,0,0,0,0,0],[1,0,0,0,0,0,0,0,0]] (@uW C) (aR au)
noncomputable def Nm (C:af) (bM bX:Int) (aP aH aI:LV):Option LV:=
 bif (decide (0≤bM))&&((decide (bM≤bM))&&(Nat.ble ((bM.toNat)*8) bm)) then
  (Loop (pB C ((List.replicate (bM.toNat) (V.int .i64 0)).length:Int)) (0,bM,bX,aI,List.replicate (bM.toNat) (V.int .i64 0),aP,aH)).bind (cM (un fun oA=>un fun wx=>un fun A8=>un fun (ph:LV)=>un fun (yx:LV) (TO:LV)=>
   some [V.int .i64 oA,V.int .i64 wx,V.int .i64 A8,.list cz ph,.list cg yx,.list ah TO]) (un fun yC=>un fun (sS:Bool)=>un fun Fs=>un fun Ft=>un fun (j4:LV)=>un fun (ae3:LV)=>un fun (rm:LV) (sK:LV)=>
   bif Nat.ble ((sK.length+([.list ae ae3]:LV).length)*24) bm then
   some [V.int .i64 0,V.int .i64 Fs,V.int .i64 (wrap .i64 (Ft+1)),.list cz j4,.list cg rm,.list ah (sK++([.list ae ae3]:LV))]
   else none))
 else none
theorem Vk {bM bX:Int} {aP aH aI:LV} {r:Option LV} (h:Nm CC bM bX aP aH aI=r):CC An [V.int .i64 bM,V.int .i64 bX,.list cg aP,.list ah aH,.list cz aI]=r:=bz (aY (as0 CC) au) h
noncomputable def ae4 (C:af):Option LV:=
 (C Ak [V.int .i64 0]).bind fun r1=>
 (C Ak [V.int .i64 1]).bind fun r2=>
 (C J5 [V.int .i64 5,.list cg ([.agg [V.int .i64 ((V.nth r1 0).toInt),V.int .i64 ((V.nth (r1.drop 1) 0).toInt),.list cg ((V.nth (r1.drop 2) 0).toList)],.agg [V.int .i64 ((V.nth r2 0).toInt),V.int .i64 ((V.nth (r2.drop 1) 0).toInt),.list cg ((V.nth (r2.drop 2) 0).toList)]]:LV)]).bind fun r3=>
 (C J5 [V.int .i64 7,.list cg ([.agg [V.int .i64 ((V.nth r3 0).toInt),V.int .i64 ((V.nth (r3.drop 1) 0).toInt),.list cg ((V.nth ((r3.drop 1).drop 1) 0).toList)]]:LV)]).bind fun r4=>
 (C J4 [V.int .i64 ((V.nth r4 0).toInt),V.int .i64 ((V.nth (r4.drop 1) 0).toInt),.list cg ((V.nth ((r4.drop 1).drop 1) 0).toList),V.int .i64 2]).bind fun r5=>
 bif (((V.nth (r5.drop 2) 0).toInt):Int)==0 then
  (C uu [V.int .i64 ((V.nth r5 0).toInt),V.int .i64 ((V.nth (r5.drop 1) 0).toInt),.list ax ((V.nth (r5.drop 3) 0).toList),.list ah ((V.nth ((r5.drop 3).drop 1) 0).toList)]).bind fun r6=>
  bif ((((V.nth (r6.drop 2) 0).toList).length:Int):Int)==3 then
  (C Ak [V.int .i64 0]).bind fun r7=>
  (C P7 [V.int .i64 ((V.nth r7 0).toInt),V.int .i64 ((V.nth (r7.drop 1) 0).toInt),.list cg ((V.nth (r7.drop 2) 0).toList),.str [97]]).bind fun r8=>
  some [.bool ((V.nth r8 0).toBool)]
  else
  some [.bool false]
 else
  some [.bool false]
theorem as1 {r:Option LV} (h:ae4 CC=r):CC ur []=r:=bz (L:=bA) au h
def kA:V:= .list cg [.agg [.int .i64 5,.int .i64 0,.list cg [.agg [.int .i64 3,.int .i64 0,.list cg []],.agg [.int .i64 3,.int .i64 1,.list cg []]]]]
def kB:V:= .list cg [.agg [.int .i64 3,.int .i64 1,.list cg []],.agg [.int .i64 7,.int .i64 0,kA]]
def kE:LV:=[.agg [.int .i64 7,.int .i64 0,kA],.agg [.int .i64 5,.int .i64 0,kB],.agg [.int .i64 1,.int .i64 0,.list cg []]]
def kM:LV:=[.aW [.str [40,97,98,41,42],.int .i64 0],.aW [.str [98,40,97,98,41,42],.int .i64 1],.aW [.str [48],.int .i64 2]]
def kF:V:= .list ax [.bool true,.bool false,.bool false]
def kN:V:= .list ah [.list ae [.int .i64 1,.int .i64 2],.list ae [.int .i64 2,.int .i64 0],.list ae [.int .i64 2,.int .i64 2]]
theorem as2:CC P8 [.int .i64 7,.int .i64 0,kA,.int .i64 2]=some [.int .i64 0]:=jY (N:=60) (n:=30) (by kernel_rfl)
theorem as3:CC Qa [.int .i64 7,.int .i64 0,kA]=some [.int .i64 7,.int .i64 0,kA]:=jY (N:=60) (n:=30) (by kernel_rfl)
theorem as4:CC P9 [.int .i64 7,.int .i64 0,kA,.int .i64 2]=some [.int .i64 2,.int .i64 0,.list cg [.agg [.int .i64 7,.int .i64 0,kA]],.list ah [],.list cz [.aW [.str [40,97,98,41,42],.int .i64 0]]]:=jY (N:=60) (n:=30) (by kernel_rfl)
theorem as5:CC vV [.int .i64 7,.int .i64 0,kA,.int .i64 0]=some [.int .i64 5,.int .i64 0,kB,.int .i64 0]:=jY (N:=60) (n:=30) (by kernel_rfl)
theorem as6:CC vW [.int .i64 5,.int .i64 0,kB]=some [.str [98,40,97,98,41,42]]:=jY (N:=60) (n:=30) (by kernel_rfl)
theorem as7:CC Ko [.int .i64 5,.int .i64 0,kB,.int .i64 2,.int .i64 0,.list cg [.agg [.int .i64 7,.int .i64 0,kA]],.list ah [],.list cz [.aW [.str [40,97,98,41,42],.int .i64 0]]]=some [.int .i64 1,.int .i64 2,.int .i64 0,.list cz [.aW [.str [40,97,98,41,42],.int .i64 0],.aW [.str [98,40,97,98,41,42],.int .i64 1]],.list cg [.agg [.int .i64 7,.int .i64 0,kA],.agg [.int .i64 5,.int .i64 0,kB]],.list ah []]:=jY (N:=60) (n:=30) (by kernel_rfl)
theorem as8:CC vV [.int .i64 7,.int .i64 0,kA,.int .i64 1]=some [.int .i64 1,.int .i64 0,.list cg [],.int .i64 0]:=jY (N:=60) (n:=30) (by kernel_rfl)
theorem as9:CC vW [.int .i64 1,.int .i64 0,.list cg []]=some [.str [48]]:=jY (N:=60) (n:=30) (by kernel_rfl)
theorem ata:CC Ko [.int .i64 1,.int .i64 0,.list cg [],.int .i64 2,.int .i64 0,.list cg [.agg [.int .i64 7,.int .i64 0,kA],.agg [.int .i64 5,.int .i64 0,kB]],.list ah [],.list cz [.aW [.str [40,97,98,41,42],.int .i64 0],.aW [.str [98,40,97,98,41,42],.int .i64 1]]]=some [.int .i64 2,.int .i64 2,.int .i64 0,.list cz kM,.list cg kE,.list ah []]:=jY (N:=60) (n:=30) (by kernel_rfl)
theorem atb:CC An [.int .i64 2,.int .i64 0,.list cg [.agg [.int .i64 7,.int .i64 0,kA]],.list ah [],.list cz [.aW [.str [40,97,98,41,42],.int .i64 0]]]=some [.int .i64 0,.int .i64 2,.int .i64 1,.list cz kM,.list cg kE,.list ah [.list ae [.int .i64 1,.int .i64 2]]]:=by
 have h1:pB CC 2 (0,2,0,[.aW [.str [40,97,98,41,42],.int .i64 0]],[.int .i64 0,.int .i64 0],[.agg [.int .i64 7,.int .i64 0,kA]],[])=some (.inl (1,2,0,[.aW [.str [40,97,98,41,42],.int .i64 0],.aW [.str [98,40,97,98,41,42],.int .i64 1]],[.int .i64 1,.int .i64 0],[.agg [.int .i64 7,.int .i64 0,kA],.agg [.int .i64 5,.int .i64 0,kB]],[])):=by simp only[pB,uW,un,aq];exact bT rfl (bT rfl (bs rfl (bs as5 (bF rfl (bs as6 (bT rfl (bT rfl (bF rfl (bs as7 (bT rfl (bs rfl rfl)))))))))))
 have h2:pB CC 2 (1,2,0,[.aW [.str [40,97,98,41,42],.int .i64 0],.aW [.str [98,40,97,98,41,42],.int .i64 1]],[.int .i64 1,.int .i64 0],[.agg [.int .i64 7,.int .i64 0,kA],.agg [.int .i64 5,.int .i64 0,kB]],[])=some (.inl (2,2,0,kM,[.int .i64 1,.int .i64 2],kE,[])):=by simp only[pB,uW,un,aq];exact bT rfl (bT rfl (bs rfl (bs as8 (bF rfl (bs as9 (bT rfl (bT rfl (bF rfl (bs ata (bT rfl (bs rfl rfl)))))))))))
 refine Vk ?_;unfold Nm;exact bT rfl (bs ((eD h1).trans ((eD h2).trans (cQ rfl))) rfl)
theorem atc:CC vV [.int .i64 5,.int .i64 0,kB,.int .i64 0]=some [.int .i64 1,.int .i64 0,.list cg [],.int .i64 0]:=jY (N:=60) (n:=30) (by kernel_rfl)
theorem atd:CC vW [.int .i64 1,.int .i64 0,.list cg []]=some [.str [48]]:=jY (N:=60) (n:=30) (by kernel_rfl)
theorem ate:CC vV [.int .i64 5,.int .i64 0,kB,.int .i64 1]=some [.int .i64 7,.int .i64 0,kA,.int .i64 0]:=jY (N:=60) (n:=30) (by kernel_rfl)
theorem atf:CC vW [.int .i64 7,.int .i64 0,kA]=some [.str [40,97,98,41,42]]:=jY (N:=60) (n:=30) (by kernel_rfl)
theorem atg:CC An [.int .i64 2,.int .i64 1,.list cg kE,.list ah [.list ae [.int .i64 1,.int .i64 2]],.list cz kM]=some [.int .i64 0,.int .i64 2,.int .i64 2,.list cz kM,.list cg kE,.list ah [.list ae [.int .i64 1,.int .i64 2],.list ae [.int .i64 2,.int .i64 0]]]:=by
 have h1:pB CC 2 (0,2,1,kM,[.int .i64 0,.int .i64 0],kE,[.list ae [.int .i64 1,.int .i64 2]])=some (.inl (1,2,1,kM,[.int .i64 2,.int .i64 0],kE,[.list ae [.int .i64 1,.int .i64 2]])):=by simp only[pB,uW,un,aq];exact bT rfl (bT rfl (bs rfl (bs atc (bF rfl (bs atd (bT rfl (bF rfl (bT rfl (bs rfl rfl)))))))))
 have h2:pB CC 2 (1,2,1,kM,[.int .i64 2,.int .i64 0],kE,[.list ae [.int .i64 1,.int .i64 2]])=some (.inl (2,2,1,kM,[.int .i64 2,.int .i64 0],kE,[.list ae [.int .i64 1,.int .i64 2]])):=by simp only[pB,uW,un,aq];exact bT rfl (bT rfl (bs rfl (bs ate (bF rfl (bs atf (bT rfl (bF rfl (bT rfl (bs rfl rfl)))))))))
 refine Vk ?_;unfold Nm;exact bT rfl (bs ((eD h1).trans ((eD h2).trans (cQ rfl))) rfl)
theorem ath:CC vV [.int .i64 1,.int .i64 0,.list cg [],.int .i64 0]=some [.int .i64 1,.int .i64 0,.list cg [],.int .i64 0]:=jY (N:=60) (n:=30) (by kernel_rfl)
theorem ati:CC vW [.int .i64 1,.int .i64 0,.list cg []]=some [.str [48]]:=jY (N:=60) (n:=30) (by kernel_rfl)
theorem atj:CC vV [.int .i64 1,.int .i64 0,.list cg [],.int .i64 1]=some [.int .i64 1,.int .i64 0,.list cg [],.int .i64 0]:=jY (N:=60) (n:=30) (by kernel_rfl)
theorem atk:CC vW [.int .i64 1,.int .i64 0,.list cg []]=some [.str [48]]:=jY (N:=60) (n:=30) (by kernel_rfl)
theorem atl:CC An [.int .i64 2,.int .i64 2,.list cg kE,.list ah [.list ae [.int .i64 1,.int .i64 2],.list ae [.int .i64 2,.int .i64 0]],.list cz kM]=some [.int .i64 0,.int .i64 2,.int .i64 3,.list cz kM,.list cg kE,kN]:=by
 have h1:pB CC 2 (0,2,2,kM,[.int .i64 0,.int .i64 0],kE,[.list ae [.int .i64 1,.int .i64 2],.list ae [.int .i64 2,.int .i64 0]])=some (.inl (1,2,2,kM,[.int .i64 2,.int .i64 0],kE,[.list ae [.int .i64 1,.int .i64 2],.list ae [.int .i64 2,.int .i64 0]])):=by simp only[pB,uW,un,aq];exact bT rfl (bT rfl (bs rfl (bs ath (bF rfl (bs ati (bT rfl (bF rfl (bT rfl (bs rfl rfl)))))))))
 have h2:pB CC 2 (1,2,2,kM,[.int .i64 2,.int .i64 0],kE,[.list ae [.int .i64 1,.int .i64 2],.list ae [.int .i64 2,.int .i64 0]])=some (.inl (2,2,2,kM,[.int .i64 2,.int .i64 2],kE,[.list ae [.int .i64 1,.int .i64 2],.list ae [.int .i64 2,.int .i64 0]])):=by simp only[pB,uW,un,aq];exact bT rfl (bT rfl (bs rfl (bs atj (bF rfl (bs atk (bT rfl (bF rfl (bT rfl (bs rfl rfl)))))))))
 refine Vk ?_;unfold Nm;exact bT rfl (bs ((eD h1).trans ((eD h2).trans (cQ rfl))) rfl)
theorem atm:CC Qc [.int .i64 2,.int .i64 3,.list cg kE,kN,.list cz kM]=some [.int .i64 2,.int .i64 0,.int .i64 2,.int .i64 3,.list cz kM,kF,kN,.list cg kE]:=jY (N:=60) (n:=30) (by kernel_rfl)
theorem atn:CC J4 [.int .i64 7,.int .i64 0,kA,.int .i64 2]=some [.int .i64 2,.int .i64 0,.int .i64 0,kF,kN]:=by
 have b1:uV CC 0 0 [] [] (2,0,[.agg [.int .i64 7,.int .i64 0,kA]],[],[.aW [.str [40,97,98,41,42],.int .i64 0]])=some (.inl (2,1,kE,[.list ae [.int .i64 1,.int .i64 2]],kM)):=by simp only[uV,yZ,un];exact bs (Nl rfl) (bT rfl (bs atb (bF rfl rfl)))
 have b2:uV CC 0 0 [] [] (2,1,kE,[.list ae [.int .i64 1,.int .i64 2]],kM)=some (.inl (2,2,kE,[.list ae [.int .i64 1,.int .i64 2],.list ae [.int .i64 2,.int .i64 0]],kM)):=by simp only[uV,yZ,un];exact bs (Nl rfl) (bT rfl (bs atg (bF rfl rfl)))
 have b3:uV CC 0 0 [] [] (2,2,kE,[.list ae [.int .i64 1,.int .i64 2],.list ae [.int .i64 2,.int .i64 0]],kM)=some (.inl (2,3,kE,[.list ae [.int .i64 1,.int .i64 2],.list ae [.int .i64 2,.int .i64 0],.list ae [.int .i64 2,.int .i64 2]],kM)):=by simp only[uV,yZ,un];exact bs (Nl rfl) (bT rfl (bs atl (bF rfl rfl)))
 have b4:uV CC 0 0 [] [] (2,3,kE,[.list ae [.int .i64 1,.int .i64 2],.list ae [.int .i64 2,.int .i64 0],.list ae [.int .i64 2,.int .i64 2]],kM)=some (.inr (.inr (false,2,3,kE,[.list ae [.int .i64 1,.int .i64 2],.list ae [.int .i64 2,.int .i64 0],.list ae [.int .i64 2,.int .i64 2]],kM))):=by simp only[uV,yZ,un];exact bs (Nl rfl) (bF rfl rfl)
 refine asX ?_;unfold ae2;refine bs as2 (bF rfl (bs as3 (bs as4 (bs ((eD b1).trans ((eD b2).trans ((eD b3).trans (cQ b4)))) ?_))));exact bs atm rfl
theorem ato:CC uu [.int .i64 2,.int .i64 0,kF,kN]=some [.int .i64 2,.int .i64 0,kF,kN]:=jY (N:=60) (n:=30) (by kernel_rfl)
theorem atp:CC P7 [.int .i64 3,.int .i64 0,.list cg [],.str [97]]=some [.bool true]:=jY (N:=60) (n:=30) (by kernel_rfl)
theorem BT:CC ur []=some [.bool true]:=by
 have hl: ∀x,CC Ak [.int .i64 x]=some [.int .i64 3,.int .i64 x,.list cg []]:=fun x=>asS rfl;refine as1 ?_;unfold ae4;refine bs (hl 0) (bs (hl 1) (bs (ae1 rfl) (bs (ae1 rfl) (bs atn (bT rfl (bs ato (bT rfl (bs (hl 0) (bs atp rfl)))))))))
noncomputable def Vl (C:af) (bV cb:Int) (bG bZ:LV) (jc:Int):Option LV:=
 bif decide ((bG.length:Int)≤jc) then
  bif decide (bV≤2) then
  (C J3 [V.int .i64 bV,V.int .i64 cb,.list ax bG,.list ah bZ]).bind fun r1=>
  some [.bool ((((V.nth r1 0).toInt):Int)==0)]
  else
  some [.bool false]
 else
  some [.bool false]
theorem atq {bV cb:Int} {bG bZ:LV} {jc:Int} {r:Option LV} (h:Vl CC bV cb bG bZ jc=r):CC DT [V.int .i64 bV,V.int .i64 cb,.list ax bG,.list ah bZ,V.int .i64 jc]=r:=bz (L:=bA) au h
noncomputable def HG (C:af) (cP t39:LV) (t40 cC cT:Int) (dG dw:LV) (t41:Int) {β:Type} (kn:Int→Option β) (kr:((Bool) ⊕ (Int×Bool))→Option β):Option β:=
 bif decide (t41<t40) then
  (idx t39 t41).bind fun x5=>
  bif decide ((x5.toStr.length:Int)>6) then
  (C ur []).bind fun r6=>
  kr (.inl ((V.nth r6 0).toBool))
  else
  (C DU [.str x5.toStr,V.int .i64 cC]).bind fun r7=>
  bif !((V.nth r7 0).toBool) then
   (C ur []).bind fun r8=>
   kr (.inl ((V.nth r8 0).toBool))
  else
   kn (wrap .i64 (t41+1))
 else
  kr (.inr (t41,decide (t41<t40)))
noncomputable def Nn (C:af) (cP t39:LV) (t40 cC cT:Int) (dG dw:LV):=fun t41=>HG C cP t39 t40 cC cT dG dw t41 (fun y=>some (Sum.inl y)) (fun r=>some (Sum.inr r))
noncomputable def HH (C:af) (t96:LV) (t97 iy:Int) (jI kC jg kD kG:LV) (uX:Int) (uY uZ u0 u3 u4:LV) (t98:Int) (mi:LV) {β:Type} (kn:(Int×LV)→Option β) (kr:(Int×Bool×LV)→Option β):Option β:=
 bif decide (t98<t97) then
  (idx t96 t98).bind fun rE=>
  (C DV [V.int .i64 iy,.list ah jI,.list ch kC,.list ae jg,.list ax kD,.list ax kG,.str rE.toStr]).bind fun nJ=>
  bif Nat.ble ((mi.length+([V.int .i64 ((V.nth nJ 0).toInt)]:LV).length)*8) bm then
  kn (wrap .i64 (t98+1),mi++([V.int .i64 ((V.nth nJ 0).toInt)]:LV))
  else none
 else
  kr (t98,decide (t98<t97),mi)
noncomputable def No (C:af) (t96:LV) (t97 iy:Int) (jI kC jg kD kG:LV) (uX:Int) (uY uZ u0 u3 u4:LV):=un fun t98 mi=>HH C t96 t97 iy jI kC jg kD kG uX uY uZ u0 u3 u4 t98 mi (fun y=>some (Sum.inl y)) (fun r=>some (Sum.inr r))
noncomputable def HI (C:af) (dv sub:LV) (k' v t123 t124:Int) (t129:LV) (t130 uX:Int) (uY uZ u0 u3 u4 mi:LV) (t131:Int) {β:Type} (kn:Int→Option β) (kr:LV→Option β):Option β:=
 bif decide (t131<t130) then
  (idx t129 t131).bind fun pj=>
  bif (pj.toInt:Int)==v then
  aq mi k' fun lY=>
  kr (aD mi k' (V.int .i64 t131))
  else
  kn (wrap .i64 (t131+1))
 else
  kr mi
noncomputable def Np (C:af) (dv sub:LV) (k' v t123 t124:Int) (t129:LV) (t130 uX:Int) (uY uZ u0 u3 u4 mi:LV):=fun t131=>HI C dv sub k' v t123 t124 t129 t130 uX uY uZ u0 u3 u4 mi t131 (fun y=>some (Sum.inl y)) (fun r=>some (Sum.inr r))
noncomputable def HJ (C:af) (dv sub:LV) (t123 uX:Int) (uY uZ u0 u3 u4:LV) (t124:Int) (mi:LV) {β:Type} (kn:(Int×LV)→Option β) (kr:(Int×Bool×LV)→Option β):Option β:=
 bif decide (t124<t123) then
  aq mi t124 fun oI=>
  (Loop (Np C dv sub t124 oI.toInt t123 t124 dv (dv.length:Int) uX uY uZ u0 u3 u4 mi) 0).bind (fun (atr:LV)=>
   kn (wrap .i64 (t124+1),atr))
 else
  kr (t124,decide (t124<t123),mi)
noncomputable def Nq (C:af) (dv sub:LV) (t123 uX:Int) (uY uZ u0 u3 u4:LV):=un fun t124 mi=>HJ C dv sub t123 uX uY uZ u0 u3 u4 t124 mi (fun y=>some (Sum.inl y)) (fun r=>some (Sum.inr r))
noncomputable def Nr (C:af):cx:=br 65 QO [EQ,EQ,EQ,H1,EQ,EQ,EQ,EQ] [[0],[1,2,3,0,0,5,6,7,8]] (@HG C) (br 257 QP [EQ,EQ,H1,EQ,EQ,EQ,EQ,EQ,EQ,EQ,EQ,EQ,EQ,EQ,EQ,H1] [[1,2,0,0,4,5,6,7,8,9,10,11,12,13,14,15,0]] (@HH C) (br 449 QQ [EQ,EQ,EQ,EQ,EQ,EQ,EQ,EQ,H1,EQ,EQ,EQ,EQ,EQ,EQ,EQ] [[1,2,5,6,10,11,12,13,14,15,0]] (@HI C) (br 401 QR [EQ,EQ,EQ,H1,EQ,EQ,EQ,EQ,EQ,EQ,H1] [[1,2,3,0,0,5,6,7,8,9,10,0]] (@HJ C) bA)))
theorem ats (C:af):aZ C (Nr C) 3 (Lp [1,1,0,1,0,0] 3):=bq QO [EQ,EQ,EQ,H1,EQ,EQ,EQ,EQ] [[0],[1,2,3,0,0,5,6,7,8]] (@HG C) (aR au)
theorem att (C:af):aZ C (Nr C) 3 (Lp [1,1,1,1,1,1,1,1,0,1,0,0] 3):=bq QP [EQ,EQ,H1,EQ,EQ,EQ,EQ,EQ,EQ,EQ,EQ,EQ,EQ,EQ,EQ,H1] [[1,2,0,0,4,5,6,7,8,9,10,11,12,13,14,15,0]] (@HH C) (aR au)
theorem atu (C:af):aZ C (Nr C) 3 (Lp [1,1,1,1,1,1,1,1,1,1,1,1,0,1,0,0,1,1,0,0,1,1,0,0] 3):=bq QQ [EQ,EQ,EQ,EQ,EQ,EQ,EQ,EQ,H1,EQ,EQ,EQ,EQ,EQ,EQ,EQ] [[1,2,5,6,10,11,12,13,14,15,0]] (@HI C) (aR au)
theorem atv (C:af):aZ C (Nr C) 3 (Lp [1,1,1,1,1,1,1,1,1,1,1,1,0,1,0,0] 3):=bq QR [EQ,EQ,EQ,H1,EQ,EQ,EQ,EQ,EQ,EQ,H1] [[1,2,3,0,0,5,6,7,8,9,10,0]] (@HJ C) (aR (aY (atu C) au))
noncomputable def HK (C:af) (bV cb:Int) (bG bZ cP:LV):Option LV:=
 (C DT [V.int .i64 bV,V.int .i64 cb,.list ax bG,.list ah bZ,V.int .i64 3]).bind fun r1=>
 bif !((V.nth r1 0).toBool) then
  (C ur []).bind fun r2=>
  some [.bool ((V.nth r2 0).toBool)]
 else
  bif decide ((cP.length:Int)<1) then
  (C ur []).bind fun r3=>
  some [.bool ((V.nth r3 0).toBool)]
  else
  bif decide ((cP.length:Int)>2) then
   (C ur []).bind fun r4=>
   some [.bool ((V.nth r4 0).toBool)]
  else
   (Loop (Nn C cP cP (cP.length:Int) bV cb bG bZ) 0).bind (cM (fun (mL:Bool)=>
    some [.bool mL]) (un fun (LJ:Int) (wz:Bool)=>
    (C JY [V.int .i64 bV,V.int .i64 cb,.list ax bG,.list ah bZ,.list ch cP]).bind fun ma=>
    (C ou [V.int .i64 bV,V.int .i64 cb,.list ax bG,.list ah bZ]).bind fun qu=>
    (C ou [V.int .i64 ((V.nth ma 0).toInt),V.int .i64 ((V.nth (ma.drop 1) 0).toInt),.list ax ((V.nth (ma.drop 3) 0).toList),.list ah ((V.nth ((ma.drop 3).drop 1) 0).toList)]).bind fun kH=>
    bif (((V.nth (ma.drop 2) 0).toInt):Int) != 0 then
    some [.bool false]
    else
    bif (((V.nth (qu.drop 6) 0).toInt):Int) != 0 then
     some [.bool false]
    else
     bif (((V.nth (kH.drop 6) 0).toInt):Int) != 0 then
     some [.bool false]
     else
     bif ((((V.nth (qu.drop 1) 0).toList).length:Int):Int)==0 then
      some [.bool false]
     else
      bif ((((V.nth (kH.drop 1) 0).toList).length:Int):Int)==0 then
      some [.bool false]
      else
      (Loop (No C cP (cP.length:Int) ((V.nth qu 0).toInt) ((V.nth (qu.drop 1) 0).toList) ((V.nth ((qu.drop 1).drop 1) 0).toList) ((V.nth (((qu.drop 1).drop 1).drop 1) 0).toList) ((V.nth ((((qu.drop 1).drop 1).drop 1).drop 1) 0).toList) ((V.nth (((((qu.drop 1).drop 1).drop 1).drop 1).drop 1) 0).toList) ((V.nth kH 0).toInt) ((V.nth (kH.drop 1) 0).toList) ((V.nth ((kH.drop 1).drop 1) 0).toList) ((V.nth (((kH.drop 1).drop 1).drop 1) 0).toList) ((V.nth ((((kH.drop 1).drop 1).drop 1).drop 1) 0).toList) ((V.nth (((((kH.drop 1).drop 1).drop 1).drop 1).drop 1) 0).toList)) (0,([V.int .i64 0]:LV))).bind (un fun T8=>un fun (ac5:Bool) (Vm:LV)=>
       (C JZ [.list ah ((V.nth (qu.drop 1) 0).toList),.list ae Vm]).bind fun jf=>
       (C J0 [.list ah ((V.nth (qu.drop 1) 0).toList),.list ae ((V.nth jf 0).toList)]).bind fun wG=>
       bif (((V.nth (wG.drop 1) 0).toInt):Int) != 0 then
        some [.bool false]
       else
        (Loop (Nq C ((V.nth jf 0).toList) ((V.nth wG 0).toList) (Vm.length:Int) ((V.nth kH 0).toInt) ((V.nth (kH.drop 1) 0).toList) ((V.nth ((kH.drop 1).drop 1) 0).toList) ((V.nth (((kH.drop 1).drop 1).drop 1) 0).toList) ((V.nth ((((kH.drop 1).drop 1).drop 1).drop 1) 0).toList) ((V.nth (((((kH.drop 1).drop 1).drop 1).drop 1).drop 1) 0).toList)) (0,Vm)).bind (un fun aoY=>un fun (LG:Bool) (atw:LV)=>
         bif Nat.ble ((([V.int .i64 0]:LV).length+((V.nth (((kH.drop 1).drop 1).drop 1) 0).toList).length)*8) bm then
         (C J1 [.list ah ((V.nth wG 0).toList),.list ae atw,.list ah ((V.nth (kH.drop 1) 0).toList),.list ae (([V.int .i64 0]:LV)++((V.nth (((kH.drop 1).drop 1).drop 1) 0).toList))]).bind fun r29=>
         bif (V.nth r29 0).toBool then
          (C J2 [.list ah ((V.nth wG 0).toList),.list ah ((V.nth (kH.drop 1) 0).toList),.list ae ((V.nth (r29.drop 1) 0).toList)]).bind fun Br=>
          bif ((((V.nth Br 0).toList).length:Int):Int)==(((V.nth (kH.drop 1) 0).toList).length:Int) then
          (C ur []).bind fun MK=>
          some [.bool ((V.nth MK 0).toBool)]
          else
          some [.bool false]
         else
          some [.bool false]
         else none))))
theorem ae5 {bV cb:Int} {bG bZ cP:LV} {r:Option LV} (h:HK CC bV cb bG bZ cP=r):CC DS [V.int .i64 bV,V.int .i64 cb,.list ax bG,.list ah bZ,.list ch cP]=r:=bz (aY (ats CC) (aY (att CC) (aY (atv CC) au))) h
end Go.AM
