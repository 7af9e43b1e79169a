/-
  Functions of the program, lifted to plain data.
-/
import Derived.Sort.AssemblyPlain
import Derived.Test.YtppefogdkedaiaaGreatDoorP4
set_option linter.unusedVariables false
set_option linter.unusedSimpArgs false
set_option maxRecDepth 100000
namespace Go.AM
open Go.Proofs
noncomputable def Vz (C:ae) (i:Int) (di:List UInt8) (H5:Bool) (aS cy:List V):Option (List V):=
 (C o9 [.str di]).bind fun r1=>
 bif (decide (0≤i))&&(decide (i<(aS.length:Int))) then
  (aS[(i:Int).toNat]?).bind fun x2=>
  (c9 Tryz.prog aD aS [((i:Int).toNat,0)]).bind fun x3=>
  (C LQ [.list aJ x3.toList,.bool H5,.list aJ ((V.nth r1 0).toList),.list aD cy]).bind fun r4=>
  bif (decide (0≤i))&&(decide (i<(aS.length:Int))) then
  (aS[(i:Int).toNat]?).bind fun x5=>
  some [.str di,.bool ((V.nth r4 0).toBool),.list aD (aS.set ((i:Int).toNat) (.list aJ ((V.nth ((r4.drop 1).drop 1) 0).toList))),.list aD ((V.nth (r4.drop 1) 0).toList)]
  else none
 else none
theorem ahd {i:Int} {di:List UInt8} {H5:Bool} {aS cy:List V} {r:Option (List V)} (h:Vz CC i di H5 aS cy=r):CC qe [.int .i64 i,.str di,.bool H5,.list aD aS,.list aD cy]=r:=
 aZ (key:=56) (L:=bX) (bs:=[]) (by kernel_rfl) aw (aX (by kernel_rfl) h)
noncomputable def VA (C:ae) (j:Int) (di:Bool) (au aS:List V):Option (List V):=
 bif !di then
  bif (decide (0≤j))&&(decide (j<(aS.length:Int))) then
  (aS[(j:Int).toNat]?).bind fun x1=>
  (c9 Tryz.prog aD aS [((j:Int).toNat,0)]).bind fun x2=>
  (C vA [.list aJ x2.toList,.int .i64 j,.list aJ au]).bind fun r3=>
  some [.bool di,.list aD aS,.list aJ ((V.nth r3 0).toList)]
  else none
 else
  (C yx [.list aJ au,.int .i64 j]).bind fun r4=>
  bif !((V.nth r4 0).toBool) then
  bif (decide (0≤j))&&(decide (j<(aS.length:Int))) then
   (aS[(j:Int).toNat]?).bind fun x5=>
   (c9 Tryz.prog aD aS [((j:Int).toNat,0)]).bind fun x6=>
   (C vA [.list aJ x6.toList,.int .i64 j,.list aJ au]).bind fun r7=>
   some [.bool di,.list aD aS,.list aJ ((V.nth r7 0).toList)]
  else none
  else
  some [.bool di,.list aD aS,.list aJ au]
theorem ahe {j:Int} {di:Bool} {au aS:List V} {r:Option (List V)} (h:VA CC j di au aS=r):CC qf [.int .i64 j,.bool di,.list aJ au,.list aD aS]=r:=
 aZ (key:=57) (L:=bX) (bs:=[]) (by kernel_rfl) aw (aX (by kernel_rfl) h)
noncomputable abbrev VB:Code:=cj Tryz.prog (av.aQ 61)
noncomputable def CX (C:ae) (i:Int) (di:List UInt8) (jZ:Int) (au:List V) (k':Int) (y9:List V) {β:Type} (kn:(Int × (List V))→Option β) (kr:(Int × Bool × (List V))→Option β):Option β:=
 bif decide ((k':Int)≤jZ) then
  bif (decide (0≤i))&&(decide (i<(au.length:Int))) then
  (au[(i:Int).toNat]?).bind fun x2=>
  (c9 Tryz.prog aD au [((i:Int).toNat,0)]).bind fun x3=>
  bif (decide (0≤k'))&&(decide (k'<(x3.toList.length:Int))) then
   (c9 Tryz.prog aD au [((i:Int).toNat,0)]).bind fun x4=>
   (x4.toList[(k':Int).toNat]?).bind fun x5=>
   bif (decide (0≤k'))&&(decide (k'<(y9.length:Int))) then
   (y9[(k':Int).toNat]?).bind fun x6=>
   kn (IntKind.wrap .i64 (k'+1),y9.set ((k':Int).toNat) (.int .u64 (IntKind.wrap .u64 (BitVec.ofInt (IntKind.bits .u64) 18446744073709551615 ^^^ BitVec.ofInt (IntKind.bits .u64) x5.toInt).toNat)))
   else none
  else none
  else none
 else
  kr (k',decide ((k':Int)≤jZ),y9)
noncomputable def CY (C:ae) (i:Int) (di:List UInt8) (jZ:Int) (au:List V):(Int × (List V))→Option ((Int × (List V)) ⊕ (Int × Bool × (List V))):=un fun k' y9=>CX C i di jZ au k' y9 (fun y=>some (.inl y)) (fun r=>some (.inr r))
noncomputable def VC (C:ae):b8:=fun β n ds k=>
 bif Nat.beq n 33 then bM Mr [false,true,false,false,false,true] [[1,0,0,3,4,5,0]] (@CX C) ds k else
 none
abbrev ahf (C:ae) (b:bZ):Prop:=b6 Tryz.prog av C (VC C) 61 (cl Tryz.prog (av.aQ 61)) (av.sin 61).bc.length b
theorem ahg (C:ae):ahf C (.loop (ax [1,0,1,0,0] VB)):=
 bP Mr [false,true,false,false,false,true] [[1,0,0,3,4,5,0]] (@CX C) (by kernel_rfl) (a9 (bs:=[]) (by kernel_rfl) aw) (fun ds=>by kernel_rfl) (fun i x=>by kernel_rfl) (fun i x β k=>by kernel_rfl) (fun β ds k=>by kernel_rfl)
noncomputable def VD (C:ae) (i:Int) (di:List UInt8) (jZ:Int) (au:List V):Option (List V):=
 (C o9 [.str di]).bind fun r1=>
 (Loop (CY C i di jZ au) (Int.fdiv i (2^(min (6:Int).toNat (IntKind.bits .i64))),(V.nth r1 0).toList)).bind (un fun (k_7:Int)=>un fun (Cd:Bool) (sb:List V)=>
  bif (decide (0≤(Int.fdiv i (2^(min (6:Int).toNat (IntKind.bits .i64))))))&&(decide ((Int.fdiv i (2^(min (6:Int).toNat (IntKind.bits .i64))))<(sb.length:Int))) then
   (sb[(Int.fdiv i (2^(min (6:Int).toNat (IntKind.bits .i64))):Int).toNat]?).bind fun ic=>
   bif decide (0≤(IntKind.wrap .i64 ((BitVec.ofInt (IntKind.bits .i64) i&&&BitVec.ofInt (IntKind.bits .i64) 63).toNat))) then
   bif (decide (0≤(Int.fdiv i (2^(min (6:Int).toNat (IntKind.bits .i64))))))&&(decide ((Int.fdiv i (2^(min (6:Int).toNat (IntKind.bits .i64))))<(sb.length:Int))) then
    (sb[(Int.fdiv i (2^(min (6:Int).toNat (IntKind.bits .i64))):Int).toNat]?).bind fun ew=>
    bif (decide (0≤jZ))&&(decide (jZ<((sb.set ((Int.fdiv i (2^(min (6:Int).toNat (IntKind.bits .i64))):Int).toNat) (.int .u64 (IntKind.wrap .u64 ((BitVec.ofInt (IntKind.bits .u64) ic.toInt&&&BitVec.ofInt (IntKind.bits .u64) (IntKind.wrap .u64 (18446744073709551615*2^(min (IntKind.wrap .i64 ((BitVec.ofInt (IntKind.bits .i64) i&&&BitVec.ofInt (IntKind.bits .i64) 63).toNat)).toNat (IntKind.bits .u64))))).toNat)))).length:Int))) then
    ((sb.set ((Int.fdiv i (2^(min (6:Int).toNat (IntKind.bits .i64))):Int).toNat) (.int .u64 (IntKind.wrap .u64 ((BitVec.ofInt (IntKind.bits .u64) ic.toInt&&&BitVec.ofInt (IntKind.bits .u64) (IntKind.wrap .u64 (18446744073709551615*2^(min (IntKind.wrap .i64 ((BitVec.ofInt (IntKind.bits .i64) i&&&BitVec.ofInt (IntKind.bits .i64) 63).toNat)).toNat (IntKind.bits .u64))))).toNat))))[(jZ:Int).toNat]?).bind fun r0=>
    bif decide (0≤(IntKind.wrap .i64 (63-(IntKind.wrap .i64 ((BitVec.ofInt (IntKind.bits .i64) (di.length:Int)&&&BitVec.ofInt (IntKind.bits .i64) 63).toNat))))) then
     bif (decide (0≤jZ))&&(decide (jZ<((sb.set ((Int.fdiv i (2^(min (6:Int).toNat (IntKind.bits .i64))):Int).toNat) (.int .u64 (IntKind.wrap .u64 ((BitVec.ofInt (IntKind.bits .u64) ic.toInt&&&BitVec.ofInt (IntKind.bits .u64) (IntKind.wrap .u64 (18446744073709551615*2^(min (IntKind.wrap .i64 ((BitVec.ofInt (IntKind.bits .i64) i&&&BitVec.ofInt (IntKind.bits .i64) 63).toNat)).toNat (IntKind.bits .u64))))).toNat)))).length:Int))) then
     ((sb.set ((Int.fdiv i (2^(min (6:Int).toNat (IntKind.bits .i64))):Int).toNat) (.int .u64 (IntKind.wrap .u64 ((BitVec.ofInt (IntKind.bits .u64) ic.toInt&&&BitVec.ofInt (IntKind.bits .u64) (IntKind.wrap .u64 (18446744073709551615*2^(min (IntKind.wrap .i64 ((BitVec.ofInt (IntKind.bits .i64) i&&&BitVec.ofInt (IntKind.bits .i64) 63).toNat)).toNat (IntKind.bits .u64))))).toNat))))[(jZ:Int).toNat]?).bind fun iK=>
     bif (decide (0≤i))&&(decide (i<(au.length:Int))) then
      (au[(i:Int).toNat]?).bind fun ml=>
      some [.str di,.int .i64 jZ,.list aD (au.set ((i:Int).toNat) (.list aJ ((sb.set ((Int.fdiv i (2^(min (6:Int).toNat (IntKind.bits .i64))):Int).toNat) (.int .u64 (IntKind.wrap .u64 ((BitVec.ofInt (IntKind.bits .u64) ic.toInt&&&BitVec.ofInt (IntKind.bits .u64) (IntKind.wrap .u64 (18446744073709551615*2^(min (IntKind.wrap .i64 ((BitVec.ofInt (IntKind.bits .i64) i&&&BitVec.ofInt (IntKind.bits .i64) 63).toNat)).toNat (IntKind.bits .u64))))).toNat)))).set ((jZ:Int).toNat) (.int .u64 (IntKind.wrap .u64 ((BitVec.ofInt (IntKind.bits .u64) r0.toInt&&&BitVec.ofInt (IntKind.bits .u64) (Int.fdiv 18446744073709551615 (2^(min (IntKind.wrap .i64 (63-(IntKind.wrap .i64 ((BitVec.ofInt (IntKind.bits .i64) (di.length:Int)&&&BitVec.ofInt (IntKind.bits .i64) 63).toNat)))).toNat (IntKind.bits .u64))))).toNat))))))]
     else none
     else none
    else none
    else none
   else none
   else none
  else none)
theorem ahh {i:Int} {di:List UInt8} {jZ:Int} {au:List V} {r:Option (List V)} (h:VD CC i di jZ au=r):CC qj [.int .i64 i,.str di,.int .i64 jZ,.list aD au]=r:=
 aZ (key:=61) (L:=VC CC) (bs:=[.loop (ax [1,0,1,0,0] VB)]) (by kernel_rfl) (br (ahg CC) aw) (aX (by kernel_rfl) h)
def mW (w:List UInt8):Nat:=w.length/64+1
abbrev uV (w:List UInt8) (S:Nat):V:= .list aJ (bh (mW w) S)
abbrev oV (w:List UInt8) (R:Nat→Option Nat):V:= .list aD (Rows (mW w) (w.length+1) R)
theorem m9 {w:List UInt8} (h:w.length≤2048):mW w≤100:=by unfold mW;omega
theorem pq {w:List UInt8} {i:Nat} (h:i≤w.length):i/64<mW w:=by unfold mW;omega
theorem CZ {w:List UInt8}:w.length<64*mW w:=by unfold mW;omega
theorem tK {w:List UInt8} (h:w.length≤2048):CC o9 [.str w]=some [uV w 0]:=ago h
def base (w:List UInt8) (o l:Int) (i:Nat):Nat:=if o=2 then 2^i else if o=3∧i<w.length∧cZ w i=l then 2^(i+1) else 0
theorem ahi {w:List UInt8} {o l:Int} {ks:List V} {R:Nat→Option Nat} {i:Nat} (hw:w.length≤2048) (hl: ∀i,i<w.length→0≤cZ w i) (hi:i≤w.length):
  CC qc [.int .i64 (i:Int),.str w,.int .i64 o,.int .i64 l,.list aa ks,oV w R]=some [.str w,.int .i64 o,.int .i64 l,.list aa ks,oV w (upd R i (base w o l i))]:=by
 refine ag5 ?_
 unfold Vr
 rw[tK hw]
 simp only[Option.bind_some,V.aC,V.bR,cu,az,Int.toNat_natCast,kO,jY (show i<w.length+1 by omega),vQ]
 rw[ah (by omega),ah (by omega)]
 unfold H4 base
 by_cases U:o=2
 ·have e:(o==2)=true:=by simp[U]
  rw[e,ah U]
  simp only[cond_true,kO,cu,az,Int.toNat_natCast,jY (show i<w.length+1 by omega),Option.bind_some]
  rw[ah (by omega),ah (by omega),UW (pq hi) (by omega) (by omega) HR]
  simp only[Option.bind_some,V.aC,V.bR,UT,Nat.zero_or]
 ·have e:(o==2)=false:=by simp[U]
  rw[e,ai U]
  simp only[cond_false,dC,az]
  by_cases h3:o=3
  ·rw[ah h3]
   by_cases h4:i<w.length
   ·rw[ah (by omega),←az,Ck h4]
    simp only[Option.bind_some,V.toInt_int]
    rw[HO (hl i h4),wrap64 (by have:=hl i h4;omega) (by have:= @NB w i;omega)]
    by_cases h5:cZ w i=l
    ·rw[ah h5,ah ⟨h3,h4,h5⟩]
     simp only[kO,cu,az,Int.toNat_natCast,jY (show i<w.length+1 by omega),Option.bind_some]
     rw[ah (by omega),ah (by omega),wrap64 (by omega) (by omega)]
     have:=UW (m:=mW w) (N:=w.length+1) (i:=i) (j:=i+1) (S:=0) (R:=upd R i 0) (pq (by omega)) (by omega) (by omega) HR
     rw[Int.natCast_add] at this
     refine (congrArg (fun o=>Option.bind o _) this).trans ?_
     simp only[Option.bind_some,V.aC,V.bR,UT,Nat.zero_or]
    ·rw[ai h5,ai (fun h=>h5 h.2.2)]
   ·rw[ai (by omega),ai (fun h=>h4 h.2.1)]
  ·rw[ai h3,ai (fun h=>h3 h.1)]
theorem ahj {w:List UInt8} {R:Nat→Option Nat} {i S M:Nat} (hw:w.length≤2048) (hi:i≤w.length) (hR:R i=some S) (hS: ∀j,j<i→S.testBit j=false):
  CC qd [.int .i64 (i:Int),uV w M,oV w R]=some [oV w R,uV w (M|||S)]:=by
 refine ahc ?_
 unfold Vy
 simp only[cu,az,Int.toNat_natCast,kO,jY (show i<w.length+1 by omega),qp (show i<w.length+1 by omega) hR,Option.bind_some,V.bR]
 rw[ah (by omega),ah (by omega),NF (m9 hw) (pq hi) hS]
 simp only[Option.bind_some,V.aC,V.bR]
theorem ahk {i a:Nat}:CC qg [.int .i64 (i:Int),.int .i64 (a:Int)]=some [.int .i64 ((min i a:Nat):Int)]:=by
 refine ag6 ?_
 unfold Vs
 congr 3
 split<;>omega
theorem VE {w:List UInt8} {R:Nat→Option Nat} {j O:Nat} (hw:w.length≤2048) (hj:j≤w.length) {S:Nat} (hR:O.testBit j=false→R j=some S) (hS: ∀t,t<j→S.testBit t=false):
  CC qh [.int .i64 (j:Int),uV w O,oV w R]=some [oV w R,uV w (if O.testBit j=true then O else O|||S)]:=by
 refine ag7 ?_
 unfold Vt
 rw[ND (pq hj) (by omega)]
 simp only[Option.bind_some,V.aC,V.cN,ga]
 cases h:O.testBit j with
 | true=>simp
 | false=>
  have hR:=hR h
  simp only[cond_false,cu,az,Int.toNat_natCast,kO,jY (show j<w.length+1 by omega),qp (show j<w.length+1 by omega) hR,Option.bind_some,V.bR]
  rw[ah (by omega),ah (by omega),NF (m9 hw) (pq hj) hS]
  simp
theorem ahl {w:List UInt8} {R:Nat→Option Nat} {j O S:Nat} {b:Bool} (hw:w.length≤2048) (hj:j≤w.length) (hR:R j=some S) (hS: ∀t,t<j→S.testBit t=false):
  CC qf [.int .i64 (j:Int),.bool b,uV w O,oV w R]=some [.bool b,oV w R,uV w (if b=true∧O.testBit j=true then O else O|||S)]:=by
 refine ahe ?_
 unfold VA
 rw[ND (pq hj) (by omega)]
 simp only[Option.bind_some,V.aC,V.cN,ga,cu,az,Int.toNat_natCast,kO,jY (show j<w.length+1 by omega),qp (show j<w.length+1 by omega) hR,V.bR,NF (m9 hw) (pq hj) hS]
 rw[ah (by omega),ah (by omega)]
 cases b<;>cases h:O.testBit j<;>simp
theorem NP {m N i:Nat} {R:Nat→Option Nat} {x:V} (h:i<N):((Rows m N R).set i x)[i]? =some x:=by
 rw[Ab];simp[kO,h]
theorem ahm {m N i:Nat} {R:Nat→Option Nat} {l:List V} (h:i<N):c9 Tryz.prog aD ((Rows m N R).set i (.list aJ l)) [(i,0)]=some (.list aJ l):=by
 simp only[c9,NP h,Option.bind_some,HS]
 rfl
theorem ahn {m N i:Nat} {R:Nat→Option Nat} {l l':List V} (h:i<N):setRow Tryz.prog l' aD ((Rows m N R).set i (.list aJ l)) [(i,0)]=(Rows m N R).set i (.list aJ l'):=by
 simp only[setRow,NP h,HS]
 simp only[List.getElem?_cons_zero,List.set_cons_zero,cA,NH,cond_false,V.aC,List.set_set]
theorem aho {m N i S:Nat} {R:Nat→Option Nat} (hR:R i=some S):Rows m N R=(Rows m N R).set i (.list aJ (bh m S)):=by
 rw[vQ]
 congr 1
 funext j
 unfold upd
 split
 ·rename_i h;rw[h,hR]
 ·rfl
def na (o:Int) (a b:Nat):Nat:=if o=4 then a|||b else a&&&b
theorem ahp {o:Int} {a b n:Nat} (ha:a<2^n) (hb:b<2^n):na o a b<2^n:=by
 unfold na;split
 ·exact EP ha hb
 ·exact oD Nat.and_le_left ha
theorem NQ {o:Int} {a b j:Nat}:(na o a b).testBit j=if o=4 then (a.testBit j||b.testBit j) else (a.testBit j&&b.testBit j):=by
 unfold na;split
 ·rw[sI]
 ·rw[xc]
theorem ahq {w:List UInt8} {R R2:Nat→Option Nat} {i S T:Nat} {o l:Int} {ks:List V} (hw:w.length≤2048) (hi:i≤w.length) (hR:R i=some S) (hT:R2 i=some T):
  CC qi [.int .i64 (i:Int),.int .i64 o,.int .i64 l,.list aa ks,oV w R,oV w R2]=some [.int .i64 o,.int .i64 l,.list aa ks,oV w (upd R i (na o S T)),oV w R2]:=by
 refine ahb ?_
 unfold Vx
 have hN:i<w.length+1:=by omega
 have hm:=m9 hw
 simp only[cu,az,Int.toNat_natCast,kO,jY hN,qp hN hR,Option.bind_some,V.bR,mi]
 rw[ah (by omega),ah (by omega)]
 let g:Nat→Nat→Nat:=fun b k=>if k<b then na o (wd S k) (wd T k) else wd S k
 have hg: ∀b k,g b k<2^64:=fun b k=>by
  show (if k<b then _ else _)<_
  split
  ·exact ahp gK gK
  ·exact gK
 have go: ∀d b,b+d=mW w→Loop (CW CC (i:Int) (mW w:Int) o l ks (Rows (mW w) (w.length+1) R2)) ((b:Int),(Rows (mW w) (w.length+1) R).set i (.list aJ (dw (mW w) (g b))))=some ((mW w:Int),false,(Rows (mW w) (w.length+1) R).set i (.list aJ (dw (mW w) (g (mW w))))):=by
  intro d
  induction d with
  | zero=>
   intro b hb
   have hb:b=mW w:=by omega
   subst hb
   refine bj ?_
   simp only[CW,CV,un]
   rw[az,ai (by omega),ct (by omega)]
  | succ d ih=>
   intro b hb
   have za:b<mW w:=by omega
   have bG:CW CC (i:Int) (mW w:Int) o l ks (Rows (mW w) (w.length+1) R2) ((b:Int),(Rows (mW w) (w.length+1) R).set i (.list aJ (dw (mW w) (g b))))=some (.inl (((b+1:Nat):Int),(Rows (mW w) (w.length+1) R).set i (.list aJ (dw (mW w) (g (b+1)))))):=by
    simp only[CW,CV,un]
    simp only[cu,az,dC,Int.toNat_natCast,nq,kO,NP hN,ahm hN,Option.bind_some,V.bR,V.toInt_int,vM,vN za,jY hN,qp hN hT,mi,lB za,ahn hN]
    have e1:g b b=wd S b:=by simp[g]
    have e2:dw (mW w) (fun j=>if j=b then na o (wd S b) (wd T b) else g b j)=dw (mW w) (g (b+1)):=by
     refine tC fun k _=> ?_
     show (if k=b then na o (wd S b) (wd T b) else if k<b then na o (wd S k) (wd T k) else wd S k)=if k<b+1 then na o (wd S k) (wd T k) else wd S k
     by_cases h1:k=b
     ·subst h1;rw[ah rfl,ah (by omega)]
     ·rw[ai h1]
      by_cases U:k<b
      ·rw[ah U,ah (by omega)]
      ·rw[ai U,ai (by omega)]
    have t1:(b:Int)<(mW w:Int):=by omega
    have t2:(0:Int)≤(i:Int):=by omega
    have t3:(i:Int)<((w.length+1:Nat):Int):=by omega
    have t4:(0:Int)≤(b:Int):=by omega
    simp only[t1,t2,t3,t4,cU]
    rw[e1,u64_or gK gK,u64_and gK gK,vO,vO,wrap64 (by omega) (by omega)]
    by_cases h4:o=4
    ·rw[ah h4]
     unfold na at e2
     simp only[h4,cU] at e2
     rw[e2];rfl
    ·rw[ai h4]
     unfold na at e2
     simp only[h4,fR] at e2
     rw[e2];rfl
   rw[bW bG]
   exact ih (b+1) (by omega)
 have e0:Rows (mW w) (w.length+1) R=(Rows (mW w) (w.length+1) R).set i (.list aJ (dw (mW w) (g 0))):=by
  have:dw (mW w) (g 0)=bh (mW w) S:=tC fun k _=>by show (if k<0 then _ else _)=_;rw[ai (by omega)]
  rw[this];exact aho hR
 have e1:dw (mW w) (g (mW w))=bh (mW w) (na o S T):=by
  refine HQ (fun k _=>hg _ _) fun k hk j hj=> ?_
  show (if k<mW w then _ else _:Nat).testBit j=_
  rw[ah hk,NQ,NQ,og,og]
  simp[hj]
 have hl:=go (mW w) 0 (by omega)
 rw[←e0,e1,vQ] at hl
 refine (congrArg (fun o=>Option.bind o _) hl).trans ?_
 simp[un]
def full:Nat:=2^64-1
theorem NR {j:Nat}:full.testBit j=decide (j<64):=by unfold full;rw[Nat.testBit_two_pow_sub_one]
theorem ahr {A:Nat} (hA:A<2^64):IntKind.wrap .u64 (BitVec.ofInt (IntKind.bits .u64) 18446744073709551615 ^^^ BitVec.ofInt (IntKind.bits .u64) (A:Int)).toNat=((full ^^^ A:Nat):Int):=by
 have e:(18446744073709551615:Int)=((full:Nat):Int):=by unfold full;rfl
 have hf:full<2^64:=by unfold full;omega
 rw[e,BitVec.toNat_xor,yO (n:=IntKind.bits .u64) (A:=full) hf,yO (n:=IntKind.bits .u64) (A:=A) hA]
 exact tx (Nat.xor_lt_two_pow hf hA)
def sc (s:Nat):Nat:=full*2^s %2^64
def C2 (s:Nat):Nat:=full/2^s
theorem ahs {s:Nat}:sc s<2^64:=xb _ (by decide)
theorem aht {s:Nat}:C2 s<2^64:=oD (Nat.div_le_self _ _) (by unfold full;omega)
theorem ahu {s j:Nat} (hj:j<64):(sc s).testBit j=decide (s≤j):=by
 unfold sc
 rw[Nat.testBit_mod_two_pow,kY,Nat.testBit_two_pow_mul,NR]
 by_cases h:s≤j
 ·have U:j-s<64:=by omega
  simp[h,hj,U]
 ·simp[h]
theorem ahv {s j:Nat}:(C2 s).testBit j=decide (j+s<64):=by
 unfold C2
 rw[Nat.testBit_div_two_pow,NR]
theorem ahw {s:Nat} (h:s<64):IntKind.wrap .u64 (18446744073709551615*2^(min s (IntKind.bits .u64)))=((sc s:Nat):Int):=by
 have e:min s (IntKind.bits .u64)=s:=Nat.min_eq_left (by show s≤64;omega)
 rw[e,wrap_u64]
 unfold sc full
 rw[Int.natCast_emod,Int.natCast_mul,Int.natCast_pow]
 rfl
theorem ahx {s:Nat} (h:s<64):Int.fdiv 18446744073709551615 (2^(min s (IntKind.bits .u64)))=((C2 s:Nat):Int):=by
 have:=yP (A:=full) (m:=s) h
 exact this
def H6 (i n S:Nat):Nat:=(((2^(n+1)-1) ^^^ (S&&&(2^(n+1)-1))) >>> i) <<< i
theorem VF {i n S j:Nat}:(H6 i n S).testBit j=(decide (i≤j)&&(decide (j≤n)&& !(S.testBit j))):=by
 unfold H6
 rw[Nat.testBit_shiftLeft,Nat.testBit_shiftRight,Nat.testBit_xor,xc,Nat.testBit_two_pow_sub_one]
 by_cases h:i≤j
 ·have e:i+(j-i)=j:=by omega
  have e2:(j<n+1)↔(j≤n):=by omega
  simp only[e,e2,h,ge_iff_le,oG,ka]
  by_cases U:j≤n<;>simp[U]
 ·simp[h]
theorem ahy {w:List UInt8} {R:Nat→Option Nat} {i S:Nat} (hw:w.length≤2048) (hi:i≤w.length) (hR:R i=some S):
  CC qj [.int .i64 (i:Int),.str w,.int .i64 ((w.length/64:Nat):Int),oV w R]=some [.str w,.int .i64 ((w.length/64:Nat):Int),oV w (upd R i (H6 i w.length S))]:=by
 refine ahh ?_
 unfold VD
 have hN:i<w.length+1:=by omega
 have hm:=m9 hw
 have him:=pq hi
 have jK:w.length/64<mW w:=by unfold mW;omega
 rw[tK hw,vP,Co (by omega),Co (by omega)]
 simp only[Option.bind_some,V.aC,V.bR]
 let g:Nat→Nat→Nat:=fun b k=>if i/64≤k∧k<b then full ^^^ wd S k else wd 0 k
 have s4:full<2^64:=by unfold full;omega
 have go: ∀d b,i/64≤b→b+d=mW w→Loop (CY CC (i:Int) w ((w.length/64:Nat):Int) (Rows (mW w) (w.length+1) R)) ((b:Int),dw (mW w) (g b))=some ((mW w:Int),false,dw (mW w) (g (mW w))):=by
  intro d
  induction d with
  | zero=>
   intro b _ hb
   have hb:b=mW w:=by omega
   subst hb
   refine bj ?_
   simp only[CY,CX,un]
   rw[az,ai (by unfold mW;omega),ct (by unfold mW;omega)]
  | succ d ih=>
   intro b ll hb
   have za:b<mW w:=by omega
   have bG:CY CC (i:Int) w ((w.length/64:Nat):Int) (Rows (mW w) (w.length+1) R) ((b:Int),dw (mW w) (g b))=some (.inl (((b+1:Nat):Int),dw (mW w) (g (b+1)))):=by
    simp only[CY,CX,un]
    simp only[cu,az,Int.toNat_natCast,kO,Option.bind_some,V.bR,V.toInt_int,vM,vN za,jY hN,qp hN hR,mi,lB za]
    have t1:(b:Int)<(mW w:Int):=by omega
    have t2:(0:Int)≤(i:Int):=by omega
    have t3:(i:Int)<((w.length+1:Nat):Int):=by omega
    have t4:(0:Int)≤(b:Int):=by omega
    have t5:(b:Int)≤((w.length/64:Nat):Int):=by unfold mW at za;omega
    simp only[t1,t2,t3,t4,t5,cU]
    rw[ahr gK,vO,wrap64 (by omega) (by omega)]
    have e2:dw (mW w) (fun j=>if j=b then full ^^^ wd S b else g b j)=dw (mW w) (g (b+1)):=by
     refine tC fun k _=> ?_
     show (if k=b then full ^^^ wd S b else if i/64≤k∧k<b then full ^^^ wd S k else wd 0 k)=if i/64≤k∧k<b+1 then full ^^^ wd S k else wd 0 k
     by_cases h1:k=b
     ·subst h1;rw[ah rfl,ah (by omega)]
     ·rw[ai h1]
      by_cases U:i/64≤k∧k<b
      ·rw[ah U,ah (by omega)]
      ·rw[ai U,ai (by omega)]
    rw[e2];rfl
   rw[bW bG]
   exact ih (b+1) (by omega) (by omega)
 have e0:bh (mW w) 0=dw (mW w) (g (i/64)):=tC fun k _=>by
  show _=if i/64≤k∧k<i/64 then _ else wd 0 k
  rw[ai (by omega)]
 have hl:=go (mW w-i/64) (i/64) (by omega) (by omega)
 rw[←e0] at hl
 refine (congrArg (fun o=>Option.bind o _) hl).trans ?_
 generalize hG:g (mW w)=G
 have NS: ∀k,G k<2^64:=fun k=>by
  rw[←hG];show (if i/64≤k∧k<mW w then _ else _)<_
  split
  ·exact Nat.xor_lt_two_pow s4 gK
  ·exact gK
 have s1:i %64<64:=by omega
 have s2:63-w.length %64<64:=by omega
 have w1:IntKind.wrap .i64 (63-((w.length %64:Nat):Int))=((63-w.length %64:Nat):Int):=by rw[wrap64 (by omega) (by omega)];omega
 simp only[Option.bind_some,un,cu,az,Int.toNat_natCast,vM,vN him,vN jK,V.toInt_int,ahw s1,w1,ahx s2]
 rw[u64_and (NS _) ahs,vO]
 simp only[vM,vN jK,Option.bind_some,V.toInt_int,kO,jY hN]
 have t1:(0:Int)≤((i/64:Nat):Int):=by omega
 have t2:((i/64:Nat):Int)<(mW w:Int):=by omega
 have t3:(0:Int)≤((i %64:Nat):Int):=by omega
 have t4:(0:Int)≤((w.length/64:Nat):Int):=by omega
 have t5:((w.length/64:Nat):Int)<(mW w:Int):=by omega
 have t6:(0:Int)≤((63-w.length %64:Nat):Int):=by omega
 have t7:(0:Int)≤(i:Int):=by omega
 have t8:(i:Int)<((w.length+1:Nat):Int):=by omega
 simp only[t1,t2,t3,t4,t5,t6,t7,t8,cU]
 have hH: ∀k,(if k=i/64 then G (i/64)&&&sc (i %64) else G k)<2^64:=fun k=>by
  split
  ·exact oD Nat.and_le_left (NS _)
  ·exact NS _
 rw[u64_and (hH _) aht,vO]
 have e9:dw (mW w) (fun j=>if j=w.length/64 then (if w.length/64=i/64 then G (i/64)&&&sc (i %64) else G (w.length/64))&&&C2 (63-w.length %64) else if j=i/64 then G (i/64)&&&sc (i %64) else G j)=bh (mW w) (H6 i w.length S):=by
  refine HQ (fun k _=> ?_) fun k hk j hj=> ?_
  ·split
   ·exact oD Nat.and_le_left (hH _)
   ·exact hH _
  ·have VG:(G k).testBit j=(decide (i/64≤k)&& !(S.testBit (64*k+j))):=by
    rw[←hG]
    show (if i/64≤k∧k<mW w then full ^^^ wd S k else wd 0 k:Nat).testBit j=_
    by_cases h:i/64≤k
    ·rw[ah ⟨h,hk⟩,Nat.testBit_xor,NR,og];simp[hj,h]
    ·rw[ai (fun U=>h U.1),og];simp[h]
   have hK:(if k=i/64 then G (i/64)&&&sc (i %64) else G k:Nat).testBit j=(decide (i≤64*k+j)&& !(S.testBit (64*k+j))):=by
    by_cases h:k=i/64
    ·rw[ah h,←h,xc,VG,ahu hj]
     have e:(i %64≤j)↔(i≤64*k+j):=by omega
     have e2:i/64≤k:=by omega
     simp only[e,e2,oG,ka]
     rw[Bool.and_comm]
    ·rw[ai h,VG]
     have e:(i/64≤k)↔(i≤64*k+j):=by omega
     simp only[e]
   rw[VF]
   by_cases h:k=w.length/64
   ·rw[ah h]
    rw[←h,xc,hK,ahv]
    have e:(j+(63-w.length %64)<64)↔(64*k+j≤w.length):=by omega
    simp only[e]
    cases decide (i≤64*k+j)<;>cases decide (64*k+j≤w.length)<;>simp
   ·rw[ai h,hK]
    have e:64*k+j≤w.length:=by unfold mW at hk;omega
    simp only[e,oG,ka]
 rw[e9,vQ]
theorem ahz {w:List UInt8} {R R2:Nat→Option Nat} {i S:Nat} {b:Bool} (hw:w.length≤2048) (hi:i≤w.length) (hR:R i=some S) (hS:In w S)
  (U: ∀j,S.testBit j=true→∃T,R2 j=some T∧(∀t,t<j→T.testBit t=false))
  (hb:b=true→∀j' T' j T x,S.testBit j'=true→S.testBit j=true→R2 j'=some T'→R2 j=some T→T'.testBit j=true→T.testBit x=true→T'.testBit x=true):
  ∃O:Nat,CC qe [.int .i64 (i:Int),.str w,.bool b,oV w R,oV w R2]=some [.str w,.bool b,oV w (upd R i O),oV w R2]∧
   ∀x,O.testBit x=true↔∃j T,S.testBit j=true∧R2 j=some T∧T.testBit x=true:=by
 have hN:i<w.length+1:=by omega
 obtain ⟨⟨b',r',u'⟩,hc,aB,gD,O,ft,hO⟩:=ag2 (m:=mW w) (F:=S) (m9 hw)
  (P:=fun t a=>a.1=b∧a.2.1=Rows (mW w) (w.length+1) R2∧∃O:Nat,a.2.2=bh (mW w) O∧∀x,O.testBit x=true↔∃j T,j<t∧S.testBit j=true∧R2 j=some T∧T.testBit x=true)
  (fun t a ht dh hP=>by
   obtain ⟨b',r',u'⟩:=a
   obtain ⟨rfl,rfl,O,rfl,hO⟩:=hP
   obtain ⟨T,hT,hTl⟩:=U t dh
   refine ⟨(b',Rows (mW w) (w.length+1) R2,bh (mW w) (if b'=true∧O.testBit t=true then O else O|||T)),ahl hw (hS t dh) hT hTl,rfl,rfl,_,rfl,fun x=> ?_⟩
   constructor
   ·intro hx
    split at hx
    ·obtain ⟨j,T',h1,U,h3,h4⟩:=(hO x).1 hx
     exact ⟨j,T',by omega,U,h3,h4⟩
    ·rcases yZ.1 hx with hx|hx
     ·obtain ⟨j,T',h1,U,h3,h4⟩:=(hO x).1 hx
      exact ⟨j,T',by omega,U,h3,h4⟩
     ·exact ⟨t,T,by omega,dh,hT,hx⟩
   ·rintro ⟨j,T',h1,hj,h3,h4⟩
    by_cases mJ:j=t
    ·subst mJ
     rw[hT] at h3
     obtain rfl:=cT h3
     split
     ·rename_i hc
      obtain ⟨j0,T0,g1,g2,g3,g4⟩:=(hO j).1 hc.2
      exact (hO x).2 ⟨j0,T0,g1,g2,g3,hb hc.1 j0 T0 j T x g2 hj g3 hT g4 h4⟩
     ·exact yZ.2 (.inr h4)
    ·have:=(hO x).2 ⟨j,T',by omega,hj,h3,h4⟩
     split
     ·exact this
     ·exact yZ.2 (.inl this))
  (fun t a dh hP=>by
   obtain ⟨h1,U,O,h3,hO⟩:=hP
   refine ⟨h1,U,O,h3,fun x=>(hO x).trans ⟨?_,?_⟩⟩
   ·rintro ⟨j,T,h1,U⟩;exact ⟨j,T,by omega,U⟩
   ·rintro ⟨j,T,h1,U,h3⟩
    refine ⟨j,T,?_,U,h3⟩
    have:j≠t:=by rintro rfl;rw[dh] at U;cases U
    omega)
  (b,Rows (mW w) (w.length+1) R2,bh (mW w) 0) ⟨rfl,rfl,0,rfl,fun x=>⟨fun h=>by simp at h,fun ⟨j,T,h,_⟩=>by omega⟩⟩
 subst aB gD ft
 refine ⟨O,?_,fun x=>(hO x).trans ⟨fun ⟨j,T,_,h⟩=>⟨j,T,h⟩,fun ⟨j,T,h1,h⟩=>⟨j,T,by have:=hS j h1;have:= @CZ w;omega,h1,h⟩⟩⟩
 refine ahd ?_
 unfold Vz
 rw[tK hw]
 simp only[cu,az,Int.toNat_natCast,kO,jY hN,qp hN hR,Option.bind_some,V.bR,V.aC]
 have t7:(0:Int)≤(i:Int):=by omega
 have t8:(i:Int)<((w.length+1:Nat):Int):=by omega
 simp only[t7,t8,cU]
 refine (congrArg (fun o=>Option.bind o _) hc).trans ?_
 simp only[Option.bind_some,ek,dL,V.aC,V.cN,V.bR,vQ]
noncomputable def NT (C:ae) (aj ar:Int) (ag:List V):Option (List V):=
 some [.bool ((aj:Int)==1)]
theorem VH {aj ar:Int} {ag:List V} {r:Option (List V)} (h:NT CC aj ar ag=r):CC mf [.int .i64 aj,.int .i64 ar,.list aa ag]=r:=
 aZ (key:=72) (L:=bX) (bs:=[]) (by kernel_rfl) aw (aX (by kernel_rfl) h)
noncomputable def NU (C:ae) (aj ar:Int) (ag:List V):Option (List V):=
 bif (aj:Int)==8 then
  bif ((ag.length:Int):Int)==1 then
  (ag[0]?).bind fun x1=>
  (C mf [.int .i64 ((x1.cell 0).toInt),.int .i64 ((x1.cell 1).toInt),.list aa ((x1.cell 2).toList)]).bind fun r2=>
  some [.bool ((V.nth r2 0).toBool)]
  else
  some [.bool false]
 else
  some [.bool false]
theorem VI {aj ar:Int} {ag:List V} {r:Option (List V)} (h:NU CC aj ar ag=r):CC lz [.int .i64 aj,.int .i64 ar,.list aa ag]=r:=
 aZ (key:=55) (L:=bX) (bs:=[]) (by kernel_rfl) aw (aX (by kernel_rfl) h)
noncomputable def wc (C:ae) (m:List UInt8) (aj ar:Int) (ag c6:List V):Option (List V):=
 bif (aj:Int)==5 then
  (C G5 [.str m,.list aa ag,.list aJ c6]).bind fun r1=>
  some [.list aD ((V.nth r1 0).toList)]
 else
  bif (aj:Int)==7 then
  (ag[0]?).bind fun x2=>
  (C G6 [.str m,.int .i64 ((x2.cell 0).toInt),.int .i64 ((x2.cell 1).toInt),.list aa ((x2.cell 2).toList),.list aJ c6]).bind fun r3=>
  some [.list aD ((V.nth r3 0).toList)]
  else
  bif (aj:Int)==4 then
   bif (aj:Int)==4 then
   (C BK [.str m,.int .i64 aj,.int .i64 ar,.list aa ag,.list aJ c6]).bind fun r4=>
   some [.list aD ((V.nth r4 0).toList)]
   else
   bif (aj:Int)==8 then
    (ag[0]?).bind fun x5=>
    (C BL [.str m,.int .i64 ((x5.cell 0).toInt),.int .i64 ((x5.cell 1).toInt),.list aa ((x5.cell 2).toList),.list aJ c6]).bind fun r6=>
    some [.list aD ((V.nth r6 0).toList)]
   else
    bif (decide (0≤(IntKind.wrap .i64 ((m.length:Int)+1))))&&((decide ((IntKind.wrap .i64 ((m.length:Int)+1))≤(IntKind.wrap .i64 ((m.length:Int)+1))))&&(Nat.ble (((IntKind.wrap .i64 ((m.length:Int)+1):Int).toNat)*24) cJ)) then
    (C mT [.list aJ c6,.str m,.int .i64 aj,.int .i64 ar,.list aa ag,.list aD (List.replicate ((IntKind.wrap .i64 ((m.length:Int)+1):Int).toNat) (V.list aJ ([]:List V)))]).bind fun r7=>
    some [.list aD ((V.nth ((r7.drop 1).drop 3) 0).toList)]
    else none
  else
   bif (aj:Int)==6 then
   (C BK [.str m,.int .i64 aj,.int .i64 ar,.list aa ag,.list aJ c6]).bind fun r8=>
   some [.list aD ((V.nth r8 0).toList)]
   else
   bif (aj:Int)==8 then
    (ag[0]?).bind fun x9=>
    (C BL [.str m,.int .i64 ((x9.cell 0).toInt),.int .i64 ((x9.cell 1).toInt),.list aa ((x9.cell 2).toList),.list aJ c6]).bind fun dY=>
    some [.list aD ((V.nth dY 0).toList)]
   else
    bif (decide (0≤(IntKind.wrap .i64 ((m.length:Int)+1))))&&((decide ((IntKind.wrap .i64 ((m.length:Int)+1))≤(IntKind.wrap .i64 ((m.length:Int)+1))))&&(Nat.ble (((IntKind.wrap .i64 ((m.length:Int)+1):Int).toNat)*24) cJ)) then
    (C mT [.list aJ c6,.str m,.int .i64 aj,.int .i64 ar,.list aa ag,.list aD (List.replicate ((IntKind.wrap .i64 ((m.length:Int)+1):Int).toNat) (V.list aJ ([]:List V)))]).bind fun ff=>
    some [.list aD ((V.nth ((ff.drop 1).drop 3) 0).toList)]
    else none
theorem zb {m:List UInt8} {aj ar:Int} {ag c6:List V} {r:Option (List V)} (h:wc CC m aj ar ag c6=r):CC mS [.str m,.int .i64 aj,.int .i64 ar,.list aa ag,.list aJ c6]=r:=
 aZ (key:=30) (L:=bX) (bs:=[]) (by kernel_rfl) aw (aX (by kernel_rfl) h)
noncomputable abbrev VJ:Code:=cj Tryz.prog (av.aQ 40)
noncomputable def zc (C:ae) (c6 t20:List V) (t21 t22:Int) (ms:List UInt8) (ch:List V) {β:Type} (kn:(Int × (List UInt8) × (List V))→Option β) (kr:(Int × Bool × (List UInt8) × (List V))→Option β):Option β:=
 bif decide ((t22:Int)<t21) then
  (idx t20 t22).bind fun x3=>
  (C o9 [.str ms]).bind fun r4=>
  (C LP [.list aJ c6,.list aJ ((V.nth r4 0).toList),.list aD ch]).bind fun r5=>
  (C mS [.str ms,.int .i64 ((x3.cell 0).toInt),.int .i64 ((x3.cell 1).toInt),.list aa ((x3.cell 2).toList),.list aJ ((V.nth (r5.drop 1) 0).toList)]).bind fun r6=>
  bif (((x3.cell 0).toInt):Int)==7 then
  (C Hq [.list aJ c6,.str ms,.bool true,.list aD ((V.nth r5 0).toList),.list aD ((V.nth r6 0).toList)]).bind fun r7=>
  kn (IntKind.wrap .i64 (t22+1),(V.nth r7 0).toStr,(V.nth ((r7.drop 1).drop 1) 0).toList)
  else
  (C lz [.int .i64 ((x3.cell 0).toInt),.int .i64 ((x3.cell 1).toInt),.list aa ((x3.cell 2).toList)]).bind fun r8=>
  (C Hq [.list aJ c6,.str ms,.bool ((V.nth r8 0).toBool),.list aD ((V.nth r5 0).toList),.list aD ((V.nth r6 0).toList)]).bind fun r9=>
  kn (IntKind.wrap .i64 (t22+1),(V.nth r9 0).toStr,(V.nth ((r9.drop 1).drop 1) 0).toList)
 else
  kr (t22,decide ((t22:Int)<t21),ms,ch)
noncomputable def zd (C:ae) (c6 t20:List V) (t21:Int):(Int × (List UInt8) × (List V))→Option ((Int × (List UInt8) × (List V)) ⊕ (Int × Bool × (List UInt8) × (List V))):=un fun t22=>un fun ms ch=>zc C c6 t20 t21 t22 ms ch (fun y=>some (.inl y)) (fun r=>some (.inr r))
noncomputable def VK (C:ae):b8:=fun β n ds k=>
 bif Nat.beq n 49 then bM Mb [false,false,false,true,true,true] [[1,2,3,0,0,0,0]] (@zc C) ds k else
 none
abbrev ahA (C:ae) (b:bZ):Prop:=b6 Tryz.prog av C (VK C) 40 (cl Tryz.prog (av.aQ 40)) (av.sin 40).bc.length b
theorem ahB (C:ae):ahA C (.loop (ax [1,1,0,1,0,0] VJ)):=
 bP Mb [false,false,false,true,true,true] [[1,2,3,0,0,0,0]] (@zc C) (by kernel_rfl) (a9 (bs:=[]) (by kernel_rfl) aw) (fun ds=>by kernel_rfl) (fun i x=>by kernel_rfl) (fun i x β k=>by kernel_rfl) (fun β ds k=>by kernel_rfl)
noncomputable def VL (C:ae) (m:List UInt8) (kids c6:List V):Option (List V):=
 (kids[0]?).bind fun x1=>
 (C mS [.str m,.int .i64 ((x1.cell 0).toInt),.int .i64 ((x1.cell 1).toInt),.list aa ((x1.cell 2).toList),.list aJ c6]).bind fun r2=>
 bif decide (1≤(kids.length:Int)) then
  (Loop (zd C c6 ((kids.drop 1).take (kids.length-1)) (((kids.drop 1).take (kids.length-1)).length:Int)) (0,m,(V.nth r2 0).toList)).bind (un fun (tz:Int)=>un fun (rZ:Bool)=>un fun (ao5:List UInt8) (vW:List V)=>
   some [.list aD vW])
 else none
theorem ahC {m:List UInt8} {kids c6:List V} {r:Option (List V)} (h:VL CC m kids c6=r):CC G5 [.str m,.list aa kids,.list aJ c6]=r:=
 aZ (key:=40) (L:=VK CC) (bs:=[.loop (ax [1,1,0,1,0,0] VJ)]) (by kernel_rfl) (br (ahB CC) aw) (aX (by kernel_rfl) h)
noncomputable abbrev H7:Code:=cj Tryz.prog (av.aQ 41)
noncomputable def C3 (C:ae) (ms:List UInt8) (NV NW:Int) (NX:List V) (we i:Int) (H8:List V) {β:Type} (kn:(Int × (List V))→Option β) (kr:(Int × Bool × (List V))→Option β):Option β:=
 bif decide ((i:Int)≤(ms.length:Int)) then
  (C vy [.int .i64 i,.list aJ H8]).bind fun r3=>
  kn (IntKind.wrap .i64 (i+1),(V.nth r3 0).toList)
 else
  kr (i,decide ((i:Int)≤(ms.length:Int)),H8)
noncomputable def C4 (C:ae) (ms:List UInt8) (NV NW:Int) (NX:List V) (we:Int):(Int × (List V))→Option ((Int × (List V)) ⊕ (Int × Bool × (List V))):=un fun i H8=>C3 C ms NV NW NX we i H8 (fun y=>some (.inl y)) (fun r=>some (.inr r))
noncomputable def C6 (C:ae) (ms:List UInt8) (we:Int) (C7:List V) (i:Int) (aS:List V) {β:Type} (kn:(Int × (List V))→Option β) (kr:(Int × Bool × (List V))→Option β):Option β:=
 bif decide ((i:Int)≥we) then
  (C o9 [.str ms]).bind fun r8=>
  (C vy [.int .i64 i,.list aJ ((V.nth r8 0).toList)]).bind fun r9=>
  bif (decide (0≤i))&&(decide (i<(C7.length:Int))) then
  (C7[(i:Int).toNat]?).bind fun ic=>
  (c9 Tryz.prog aD C7 [((i:Int).toNat,0)]).bind fun ew=>
  (C LO [.list aJ ew.toList,.list aJ ((V.nth r9 0).toList),.list aD aS]).bind fun fg=>
  bif (decide (0≤i))&&(decide (i<(((V.nth fg 0).toList).length:Int))) then
   (((V.nth fg 0).toList)[(i:Int).toNat]?).bind fun iK=>
   kn (IntKind.wrap .i64 (i-1),((V.nth fg 0).toList).set ((i:Int).toNat) (.list aJ ((V.nth (fg.drop 1) 0).toList)))
  else none
  else none
 else
  kr (i,decide ((i:Int)≥we),aS)
noncomputable def ze (C:ae) (ms:List UInt8) (we:Int) (C7:List V):(Int × (List V))→Option ((Int × (List V)) ⊕ (Int × Bool × (List V))):=un fun i aS=>C6 C ms we C7 i aS (fun y=>some (.inl y)) (fun r=>some (.inr r))
noncomputable def VM (C:ae):b8:=fun β n ds k=>
 bif Nat.beq n 65 then bM Mc [true,false,false,false,false,true,false] [[0,0,2,3,4,5,0,7]] (@C3 C) ds k else
 bif Nat.beq n 161 then bM Md [true,false,false,false,true] [[0,0,2,3,4,0]] (@C6 C) ds k else
 none
abbrev VN (C:ae) (b:bZ):Prop:=b6 Tryz.prog av C (VM C) 41 (cl Tryz.prog (av.aQ 41)) (av.sin 41).bc.length b
theorem ahD (C:ae):VN C (.loop (ax [1,1,1,0,1,0,0] H7)):=
 bP Mc [true,false,false,false,false,true,false] [[0,0,2,3,4,5,0,7]] (@C3 C) (by kernel_rfl) (a9 (bs:=[]) (by kernel_rfl) aw) (fun ds=>by kernel_rfl) (fun i x=>by kernel_rfl) (fun i x β k=>by kernel_rfl) (fun β ds k=>by kernel_rfl)
theorem ahE (C:ae):VN C (.loop (ax [1,1,1,1,1,1,0,1,0,0] H7)):=
 bP Md [true,false,false,false,true] [[0,0,2,3,4,0]] (@C6 C) (by kernel_rfl) (a9 (bs:=[]) (by kernel_rfl) aw) (fun ds=>by kernel_rfl) (fun i x=>by kernel_rfl) (fun i x β k=>by kernel_rfl) (fun β ds k=>by kernel_rfl)
noncomputable def VO (C:ae) (m:List UInt8) (qq qs:Int) (qt c6:List V):Option (List V):=
 (C o9 [.str m]).bind fun r1=>
 (C LL [.list aJ c6,.int .i64 (IntKind.wrap .i64 ((m.length:Int)+1))]).bind fun r2=>
 (Loop (C4 C m qq qs qt ((V.nth r2 0).toInt)) ((V.nth r2 0).toInt,(V.nth r1 0).toList)).bind (un fun (fh:Int)=>un fun (iJ:Bool) (ahF:List V)=>
  (C mS [.str m,.int .i64 qq,.int .i64 qs,.list aa qt,.list aJ ahF]).bind fun r7=>
  bif (decide (0≤(IntKind.wrap .i64 ((m.length:Int)+1))))&&((decide ((IntKind.wrap .i64 ((m.length:Int)+1))≤(IntKind.wrap .i64 ((m.length:Int)+1))))&&(Nat.ble (((IntKind.wrap .i64 ((m.length:Int)+1):Int).toNat)*24) cJ)) then
   (Loop (ze C m ((V.nth r2 0).toInt) ((V.nth r7 0).toList)) ((m.length:Int),List.replicate ((IntKind.wrap .i64 ((m.length:Int)+1):Int).toNat) (V.list aJ ([]:List V)))).bind (un fun (ao6:Int)=>un fun (yS:Bool) (CF:List V)=>
    some [.list aD CF])
  else none)
theorem ahG {m:List UInt8} {qq qs:Int} {qt c6:List V} {r:Option (List V)} (h:VO CC m qq qs qt c6=r):CC G6 [.str m,.int .i64 qq,.int .i64 qs,.list aa qt,.list aJ c6]=r:=
 aZ (key:=41) (L:=VM CC) (bs:=[.loop (ax [1,1,1,0,1,0,0] H7),.loop (ax [1,1,1,1,1,1,0,1,0,0] H7)]) (by kernel_rfl) (br (ahD CC) (br (ahE CC) aw)) (aX (by kernel_rfl) h)
noncomputable abbrev VP:Code:=cj Tryz.prog (av.aQ 42)
noncomputable def C8 (C:ae) (c6 t20:List V) (t21:Int) (ms:List UInt8) (t22 eu dH:Int) (dj au:List V) {β:Type} (kn:(Int × Int × Int × (List V) × (List V))→Option β) (kr:(Int × Bool × Int × Int × (List V) × (List V))→Option β):Option β:=
 bif decide ((t22:Int)<t21) then
  (idx t20 t22).bind fun x3=>
  (C mS [.str ms,.int .i64 ((x3.cell 0).toInt),.int .i64 ((x3.cell 1).toInt),.list aa ((x3.cell 2).toList),.list aJ c6]).bind fun r4=>
  (C LN [.list aJ c6,.int .i64 eu,.int .i64 dH,.list aa dj,.list aD au,.list aD ((V.nth r4 0).toList)]).bind fun r5=>
  kn (IntKind.wrap .i64 (t22+1),(V.nth r5 0).toInt,(V.nth (r5.drop 1) 0).toInt,(V.nth ((r5.drop 1).drop 1) 0).toList,(V.nth (r5.drop 3) 0).toList)
 else
  kr (t22,decide ((t22:Int)<t21),eu,dH,dj,au)
noncomputable def C9 (C:ae) (c6 t20:List V) (t21:Int) (ms:List UInt8):(Int × Int × Int × (List V) × (List V))→Option ((Int × Int × Int × (List V) × (List V)) ⊕ (Int × Bool × Int × Int × (List V) × (List V))):=un fun t22=>un fun eu=>un fun dH=>un fun dj au=>C8 C c6 t20 t21 ms t22 eu dH dj au (fun y=>some (.inl y)) (fun r=>some (.inr r))
noncomputable def VQ (C:ae):b8:=fun β n ds k=>
 bif Nat.beq n 49 then bM Me [false,false,false,true,false,true,true,true,true] [[1,2,3,0,0,5,0,0,0,0]] (@C8 C) ds k else
 none
abbrev ahH (C:ae) (b:bZ):Prop:=b6 Tryz.prog av C (VQ C) 42 (cl Tryz.prog (av.aQ 42)) (av.sin 42).bc.length b
theorem ahI (C:ae):ahH C (.loop (ax [1,1,0,1,0,0] VP)):=
 bP Me [false,false,false,true,false,true,true,true,true] [[1,2,3,0,0,5,0,0,0,0]] (@C8 C) (by kernel_rfl) (a9 (bs:=[]) (by kernel_rfl) aw) (fun ds=>by kernel_rfl) (fun i x=>by kernel_rfl) (fun i x β k=>by kernel_rfl) (fun β ds k=>by kernel_rfl)
noncomputable def VR (C:ae) (m:List UInt8) (aj ar:Int) (ag c6:List V):Option (List V):=
 (ag[0]?).bind fun x1=>
 (C mS [.str m,.int .i64 ((x1.cell 0).toInt),.int .i64 ((x1.cell 1).toInt),.list aa ((x1.cell 2).toList),.list aJ c6]).bind fun r2=>
 bif decide (1≤(ag.length:Int)) then
  (Loop (C9 C c6 ((ag.drop 1).take (ag.length-1)) (((ag.drop 1).take (ag.length-1)).length:Int) m) (0,aj,ar,ag,(V.nth r2 0).toList)).bind (un fun (mY:Int)=>un fun (od:Bool)=>un fun (ao7:Int)=>un fun (ao8:Int)=>un fun (ao9:List V) (m8:List V)=>
   some [.list aD m8])
 else none
theorem ahJ {m:List UInt8} {aj ar:Int} {ag c6:List V} {r:Option (List V)} (h:VR CC m aj ar ag c6=r):CC BK [.str m,.int .i64 aj,.int .i64 ar,.list aa ag,.list aJ c6]=r:=
 aZ (key:=42) (L:=VQ CC) (bs:=[.loop (ax [1,1,0,1,0,0] VP)]) (by kernel_rfl) (br (ahI CC) aw) (aX (by kernel_rfl) h)
noncomputable def VT (C:ae) (m:List UInt8) (qq qs:Int) (qt c6:List V):Option (List V):=
 (C mS [.str m,.int .i64 qq,.int .i64 qs,.list aa qt,.list aJ c6]).bind fun r1=>
 (C LM [.list aJ c6,.str m,.int .i64 (Int.fdiv (m.length:Int) (2^(min (6:Int).toNat (IntKind.bits .i64)))),.list aD ((V.nth r1 0).toList)]).bind fun r2=>
 some [.list aD ((V.nth ((r2.drop 1).drop 1) 0).toList)]
theorem ahK {m:List UInt8} {qq qs:Int} {qt c6:List V} {r:Option (List V)} (h:VT CC m qq qs qt c6=r):CC BL [.str m,.int .i64 qq,.int .i64 qs,.list aa qt,.list aJ c6]=r:=
 aZ (key:=43) (L:=bX) (bs:=[]) (by kernel_rfl) aw (aX (by kernel_rfl) h)
end Go.AM
set_option maxRecDepth 100000
namespace Go.AM
open Go.Proofs Ex
def PR (F:Nat) (R:Nat→Option Nat) (Q:Nat→Nat→Prop) (t:Nat) (Rt:Nat→Option Nat):Prop:=
 (∀i,F.testBit i=true→i<t→∃S,Rt i=some S∧Q i S)∧∀i,t≤i→Rt i=R i
theorem PR.zero {F:Nat} {R:Nat→Option Nat} {Q:Nat→Nat→Prop}:PR F R Q 0 R:=⟨fun _ _ h=>by omega,fun _ _=>rfl⟩
theorem PR.upd {F t S:Nat} {R Rt:Nat→Option Nat} {Q:Nat→Nat→Prop} (h:PR F R Q t Rt) (hQ:Q t S):PR F R Q (t+1) (upd Rt t S):=by
 refine ⟨fun i hi ht=> ?_,fun i hi=> ?_⟩
 ·by_cases e:i=t
  ·subst e;exact ⟨S,HR,hQ⟩
  ·rw[NG e];exact h.1 i hi (by omega)
 ·rw[NG (by omega)];exact h.2 i (by omega)
theorem PR.skip {F t:Nat} {R Rt:Nat→Option Nat} {Q:Nat→Nat→Prop} (h:PR F R Q t Rt) (hF:F.testBit t=false):PR F R Q (t+1) Rt:=by
 refine ⟨fun i hi ht=> ?_,fun i hi=>h.2 i (by omega)⟩
 by_cases e:i=t
 ·subst e;rw[hF] at hi;cases hi
 ·exact h.1 i hi (by omega)
theorem PR.ends {w:List UInt8} {F:Nat} {R Rt:Nat→Option Nat} {L:Lg} (h:PR F R (fun i S=> ∀j,S.testBit j=true↔Pt w L i j) (64*mW w) Rt) (hF:In w F):Ends w F Rt L:=fun i hi=>by
 have:=hF i hi;have:= @CZ w
 exact h.1 i hi (by omega)
theorem VU {w:List UInt8} {i:Nat} (h:i<w.length):sl w i (i+1)=[w.getD i 0]:=by
 unfold sl
 rw[show i+1-i=1 by omega,List.drop_eq_getElem_cons h,List.take_succ_cons,List.take_zero]
 simp[h]
theorem ahL {w:List UInt8} {o l:Int} {i j:Nat} (ho:o=1∨o=2∨o=3) (hi:i≤w.length):(base w o l i).testBit j=true↔Pt w (dv o l []) i j:=by
 unfold base Pt dv
 rcases ho with rfl|rfl|rfl
 ·simp
 ·simp only[cU]
  rw[y5]
  constructor
  ·rintro rfl;exact ⟨bU _,hi,Uu⟩
  ·rintro ⟨h1,U,h3⟩
   have:=yY h1 U
   rw[h3,List.length_nil] at this
   omega
 ·simp only[show¬((3:Int)=2) by omega,fR,cU,true_and]
  by_cases h:i<w.length∧cZ w i=l
  ·rw[ah h,y5]
   have e:=VU h.1
   constructor
   ·rintro rfl
    exact ⟨by omega,by omega,_,e,h.2⟩
   ·rintro ⟨h1,U,c,h3,h4⟩
    have:=yY h1 U
    rw[h3] at this
    simp at this
    omega
  ·rw[ai h]
   constructor
   ·intro h;simp at h
   ·rintro ⟨h1,U,c,h3,h4⟩
    have:=yY h1 U
    rw[h3] at this
    simp at this
    have e2:j=i+1:=by omega
    subst e2
    have aT:i<w.length:=by omega
    have e:=VU aT
    rw[e] at h3
    injection h3 with h3
    subst h3
    exact absurd ⟨aT,h4⟩ h
theorem ahM {e:Ex}:CC mf (bY e [])=some [.bool (decide (e.op=1))]:=by
 refine VH ?_
 unfold NT
 congr 3
def Db (e:Ex):Bool:=decide (e.op=8∧e.kids.length=1∧∀k∈e.kids,k.op=1)
theorem ahN {e:Ex}:CC lz (bY e [])=some [.bool (Db e)]:=by
 obtain ⟨o,l,ks⟩:=e
 refine VI ?_
 unfold NU Db
 simp only[Ex.op,Ex.kids,dC,bw]
 by_cases h1:o=8
 ·rw[ah h1]
  match ks with
  | []=>simp
  | [k]=>
   simp only[cr,fl,List.getElem?_cons_zero,Option.bind_some,bz,bA,bB]
   rw[ah (by simp)]
   refine (congrArg (fun o=>Option.bind o _) (ahM (e:=k))).trans ?_
   cases k
   simp[h1,Ex.op]
   try rfl
  | k::k2::ks=>
   rw[ai (by simp<;>omega)]
   simp
 ·rw[ai h1];simp[h1]
theorem ahO {w:List UInt8} {o l:Int} {ks:List V} {F:Nat} (hw:w.length≤2048) (hl: ∀i,i<w.length→0≤cZ w i) (ho:o=1∨o=2∨o=3) (hF:In w F):
  ∃R,CC mT [uV w F,.str w,.int .i64 o,.int .i64 l,.list aa ks,oV w (fun _=>none)]=some [.str w,.int .i64 o,.int .i64 l,.list aa ks,oV w R]∧Ends w F R (dv o l []):=by
 obtain ⟨_,hc,R,rfl,hP⟩:=agT (m:=mW w) (F:=F) (m9 hw)
  (P:=fun t a=> ∃R,a=(w,o,l,ks,Rows (mW w) (w.length+1) R)∧PR F (fun _=>none) (fun i S=> ∀j,S.testBit j=true↔Pt w (dv o l []) i j) t R)
  (fun t a ht dh hP=>by
   obtain ⟨R,rfl,hP⟩:=hP
   exact ⟨(w,o,l,ks,_),ahi hw hl (hF t dh),_,rfl,hP.upd fun j=>ahL ho (hF t dh)⟩)
  (fun t a dh hP=>by
   obtain ⟨R,h5,hP⟩:=hP
   exact ⟨R,h5,hP.skip dh⟩)
  (w,o,l,ks,Rows (mW w) (w.length+1) fun _=>none) ⟨_,rfl,PR.zero⟩
 exact ⟨R,hc,hP.ends hF⟩
theorem qu {w:List UInt8} {F i:Nat} {R:Nat→Option Nat} {L:Lg} (h:Ends w F R L) (hi:F.testBit i=true): ∃S,R i=some S∧In w S∧(∀j,j<i→S.testBit j=false)∧∀j,S.testBit j=true↔Pt w L i j:=by
 obtain ⟨S,h1,U⟩:=h i hi
 exact ⟨S,h1,Uw U,fun j hj=>Ux U fun h=>by have:=h.1;omega,U⟩
theorem ahP {w:List UInt8} {k:Ex} {F:Nat} {R0:Nat→Option Nat} (hw:w.length≤2048) (hF:In w F)
  (hk:CC mS (.str w::bY k [uV w F])=some [oV w R0]) (hR:Ends w F R0 k.aL):
  ∃R,CC BL (.str w::bY k [uV w F])=some [oV w R]∧Ends w F R (fun v=> ¬k.aL v):=by
 obtain ⟨_,hc,R,rfl,hP⟩:=agW (m:=mW w) (F:=F) (m9 hw)
  (P:=fun t a=> ∃R,a=(w,((w.length/64:Nat):Int),Rows (mW w) (w.length+1) R)∧PR F R0 (fun i S=> ∀j,S.testBit j=true↔Pt w (fun v=> ¬k.aL v) i j) t R)
  (fun t a ht dh hP=>by
   obtain ⟨R,rfl,hP⟩:=hP
   obtain ⟨S,g1,g2,g3,g4⟩:=qu hR dh
   have hRt:R t=some S:=by rw[hP.2 t (bU _),g1]
   refine ⟨(w,_,_),ahy hw (hF t dh) hRt,_,rfl,hP.upd fun j=> ?_⟩
   rw[VF]
   have:=g4 j
   simp only[aN,dW,lM,Pt]
   constructor
   ·rintro ⟨h1,U,h3⟩
    exact ⟨h1,U,fun h=>by rw[this.2 ⟨h1,U,h⟩] at h3;cases h3⟩
   ·rintro ⟨h1,U,h3⟩
    refine ⟨h1,U,?_⟩
    cases hc:S.testBit j
    ·rfl
    ·exact absurd (this.1 hc).2.2 h3)
  (fun t a dh hP=>by
   obtain ⟨R,h5,hP⟩:=hP
   exact ⟨R,h5,hP.skip dh⟩)
  (w,((w.length/64:Nat):Int),Rows (mW w) (w.length+1) R0) ⟨_,rfl,PR.zero⟩
 refine ⟨R,?_,hP.ends hF⟩
 refine ahK ?_
 unfold VT
 refine (congrArg (fun o=>Option.bind o _) hk).trans ?_
 simp only[Option.bind_some,V.aC,V.bR]
 rw[vP]
 refine (congrArg (fun o=>Option.bind o _) hc).trans ?_
 simp only[Option.bind_some,ek,dL,V.aC,V.bR]
def qv (w:List UInt8) (k:Ex):Prop:= ∀F,In w F→∃R,CC mS (.str w::bY k [uV w F])=some [oV w R]∧Ends w F R k.aL
theorem ahQ {w:List UInt8} {A:Lg} {F:Nat} {R:Nat→Option Nat} (hw:w.length≤2048) (hF:In w F) (hR:Ends w F R A):
  ∃M:Nat,CC Vo [uV w F,uV w 0,oV w R]=some [oV w R,uV w M]∧In w M∧∀x,M.testBit x=true↔∃i,F.testBit i=true∧Pt w A i x:=by
 obtain ⟨_,hc,M,rfl,hM⟩:=agZ (m:=mW w) (F:=F) (m9 hw)
  (P:=fun t a=> ∃M:Nat,a=(Rows (mW w) (w.length+1) R,bh (mW w) M)∧∀x,M.testBit x=true↔∃i,i<t∧F.testBit i=true∧Pt w A i x)
  (fun t a ht dh hP=>by
   obtain ⟨M,rfl,hM⟩:=hP
   obtain ⟨S,g1,g2,g3,g4⟩:=qu hR dh
   refine ⟨(_,_),ahj hw (hF t dh) g1 g3,_,rfl,fun x=> ?_⟩
   rw[yZ,hM x,g4 x]
   constructor
   ·rintro (⟨i,h1,U⟩|h)
    ·exact ⟨i,by omega,U⟩
    ·exact ⟨t,by omega,dh,h⟩
   ·rintro ⟨i,h1,U,h3⟩
    by_cases e:i=t
    ·subst e;exact .inr h3
    ·exact .inl ⟨i,by omega,U,h3⟩)
  (fun t a dh hP=>by
   obtain ⟨M,h5,hM⟩:=hP
   refine ⟨M,h5,fun x=>(hM x).trans ⟨fun ⟨i,h1,U⟩=>⟨i,by omega,U⟩,fun ⟨i,h1,U,h3⟩=>⟨i,?_,U,h3⟩⟩⟩
   have:i≠t:=by rintro rfl;rw[dh] at U;cases U
   omega)
  (Rows (mW w) (w.length+1) R,bh (mW w) 0) ⟨0,rfl,fun x=>⟨fun h=>by simp at h,fun ⟨i,h,_⟩=>by omega⟩⟩
 have VV: ∀x,M.testBit x=true↔∃i,F.testBit i=true∧Pt w A i x:=fun x=>
  (hM x).trans ⟨fun ⟨i,_,h⟩=>⟨i,h⟩,fun ⟨i,h1,h⟩=>⟨i,by have:=hF i h1;have:= @CZ w;omega,h1,h⟩⟩
 exact ⟨M,hc,fun i hi=>by obtain ⟨_,_,h⟩:=(VV i).1 hi;exact h.2.1,VV⟩
theorem ahR {k:Ex} (h:Db k=true) (v:List UInt8):k.aL v:=by
 obtain ⟨o,l,ks⟩:=k
 unfold Db at h
 obtain ⟨h1,U,h3⟩:=gP h
 have h1:o=8:=h1
 subst h1
 have U:ks.length=1:=U
 have h3: ∀k∈ks,k.op=1:=h3
 match ks,U,h3 with
 | [a],_,h3=>
  have:=h3 a (by simp)
  obtain ⟨o,l,ks⟩:=a
  rw[kM]
  have e:o=1:=this
  subst e
  simp[dv,pg,kM]
theorem VW {w:List UInt8} {A:Lg} {k:Ex} {F M:Nat} {R R2:Nat→Option Nat} {b:Bool} (hw:w.length≤2048) (hF:In w F) (hR:Ends w F R A)
  (hM: ∀x,M.testBit x=true↔∃i,F.testBit i=true∧Pt w A i x) (oj:Ends w M R2 k.aL)
  (hb:b=true→∀i j x,Pt w k.aL i j→Pt w k.aL j x→Pt w k.aL i x):
  ∃R',CC Vp [uV w F,.str w,.bool b,oV w R,oV w R2]=some [.str w,.bool b,oV w R',oV w R2]∧Ends w F R' (L2 A k.aL):=by
 obtain ⟨_,hc,R',rfl,hP⟩:=ag0 (m:=mW w) (F:=F) (m9 hw)
  (P:=fun t a=> ∃Rt,a=(w,b,Rows (mW w) (w.length+1) Rt,Rows (mW w) (w.length+1) R2)∧PR F R (fun i S=> ∀j,S.testBit j=true↔Pt w (L2 A k.aL) i j) t Rt)
  (fun t a ht dh hP=>by
   obtain ⟨Rt,rfl,hP⟩:=hP
   obtain ⟨S,g1,g2,g3,g4⟩:=qu hR dh
   have Dc: ∀j,S.testBit j=true→M.testBit j=true:=fun j hj=>(hM j).2 ⟨t,dh,(g4 j).1 hj⟩
   obtain ⟨O,ho,hO⟩:=ahz (R:=Rt) (R2:=R2) (b:=b) hw (hF t dh) (by rw[hP.2 t (bU _),g1]) g2
    (fun j hj=>by obtain ⟨T,q1,q2,q3,q4⟩:=qu oj (Dc j hj);exact ⟨T,q1,q3⟩)
    (fun hbt j' T' j T x fZ hj e' e h1 U=>by
     obtain ⟨T1,q1,q2,q3,q4⟩:=qu oj (Dc j hj)
     obtain ⟨T2,p1,p2,p3,p4⟩:=qu oj (Dc j' fZ)
     rw[q1] at e;rw[p1] at e'
     obtain rfl:=cT e
     obtain rfl:=cT e'
     exact (p4 x).2 (hb hbt _ _ _ ((p4 j).1 h1) ((q4 x).1 U)))
   refine ⟨(w,b,_,_),ho,_,rfl,hP.upd fun x=> ?_⟩
   rw[hO x,afR]
   constructor
   ·rintro ⟨j,T,h1,U,h3⟩
    obtain ⟨T1,q1,q2,q3,q4⟩:=qu oj (Dc j h1)
    rw[q1] at U
    obtain rfl:=cT U
    exact ⟨j,(g4 j).1 h1,(q4 x).1 h3⟩
   ·rintro ⟨j,h1,U⟩
    have hj:=(g4 j).2 h1
    obtain ⟨T1,q1,q2,q3,q4⟩:=qu oj (Dc j hj)
    exact ⟨j,T1,hj,q1,(q4 x).2 U⟩)
  (fun t a dh hP=>by
   obtain ⟨R,h5,hP⟩:=hP
   exact ⟨R,h5,hP.skip dh⟩)
  (w,b,Rows (mW w) (w.length+1) R,Rows (mW w) (w.length+1) R2) ⟨_,rfl,PR.zero⟩
 exact ⟨R',hc,hP.ends hF⟩
theorem ahS {w:List UInt8} {F:Nat} (hw:w.length≤2048) (hF:In w F) {rest:List Ex} (hlen:rest.length≤maxLen) (hk: ∀k∈rest,qv w k):
  ∀(aH pre:List Ex) (A:Lg) (R:Nat→Option Nat),rest=pre++aH→Ends w F R A→
  ∃R',Loop (zd CC (bh (mW w) F) (rest.map enc) ((rest.map enc).length:Int)) (((pre.length:Nat):Int),w,Rows (mW w) (w.length+1) R)=some (((rest.map enc).length:Int),false,w,Rows (mW w) (w.length+1) R')∧Ends w F R' ((aH.map aL).foldl L2 A):=by
 have hm:=pf
 intro aH
 induction aH with
 | nil=>
  intro pre A R e hR
  rw[dz] at e
  subst e
  refine ⟨R,bj ?_,hR⟩
  simp only[zd,zc,un,bw]
  rw[az,ai (by omega),ct (by omega)]
 | cons k aH ih=>
  intro pre A R e hR
  have yd:k∈rest:=by rw[e];simp
  have aT:pre.length<rest.length:=by rw[e];simp
  obtain ⟨M,c1,hMi,hM⟩:=ahQ hw hF hR
  obtain ⟨R2,c2,oj⟩:=hk k yd M hMi
  have step: ∃R',zd CC (bh (mW w) F) (rest.map enc) ((rest.map enc).length:Int) (((pre.length:Nat):Int),w,Rows (mW w) (w.length+1) R)=some (.inl (((pre.length+1:Nat):Int),w,Rows (mW w) (w.length+1) R'))∧Ends w F R' (L2 A k.aL):=by
   have hi:idx (rest.map enc) ((pre.length:Nat):Int)=some k.enc:=by rw[e];exact jD pre aH k
   by_cases h7:k.op=7
   ·obtain ⟨R',c3,sd⟩:=VW (b:=true) hw hF hR hM oj (fun _ i j x h1 U=>by
     obtain ⟨o,l,ks⟩:=k
     have e:o=7:=h7
     subst e
     have el:(Ex.node 7 l ks).aL=dI (pg (ks.map aL)):=by rw[kM];funext v;simp[dv]
     rw[el] at h1 U⊢
     exact NA h1 U)
    refine ⟨R',?_,sd⟩
    simp only[zd,zc,un,bw]
    rw[az,ah (by omega),hi,tK hw]
    simp only[Option.bind_some,bz,bA,bB,V.aC,V.bR]
    refine (congrArg (fun o=>Option.bind o _) c1).trans ?_
    simp only[Option.bind_some,ek,dL,V.aC,V.bR]
    refine (congrArg (fun o=>Option.bind o _) c2).trans ?_
    simp only[Option.bind_some,V.aC,V.bR]
    rw[dC,ah h7]
    refine (congrArg (fun o=>Option.bind o _) c3).trans ?_
    simp only[Option.bind_some,ek,dL,V.aC,V.bR,V.me]
    rw[wrap64 (by omega) (by omega)]
    rfl
   ·obtain ⟨R',c3,sd⟩:=VW (b:=Db k) hw hF hR hM oj (fun hu i j x h1 U=>⟨kW h1.1 U.1,U.2.1,ahR hu _⟩)
    refine ⟨R',?_,sd⟩
    simp only[zd,zc,un,bw]
    rw[az,ah (by omega),hi,tK hw]
    simp only[Option.bind_some,bz,bA,bB,V.aC,V.bR]
    refine (congrArg (fun o=>Option.bind o _) c1).trans ?_
    simp only[Option.bind_some,ek,dL,V.aC,V.bR]
    refine (congrArg (fun o=>Option.bind o _) c2).trans ?_
    simp only[Option.bind_some,V.aC,V.bR]
    rw[dC,ai h7]
    refine (congrArg (fun o=>Option.bind o _) (ahN (e:=k))).trans ?_
    simp only[Option.bind_some,V.aC,V.cN]
    refine (congrArg (fun o=>Option.bind o _) c3).trans ?_
    simp only[Option.bind_some,ek,dL,V.aC,V.bR,V.me]
    rw[wrap64 (by omega) (by omega)]
    rfl
  obtain ⟨R',bG,sd⟩:=step
  obtain ⟨NY,h1,U⟩:=ih (pre++[k]) (L2 A k.aL) R' (by simp[e]) sd
  refine ⟨NY,?_,U⟩
  rw[bW bG]
  simpa using h1
theorem drop_one {α:Type} {a:α} {l:List α}:((a::l).drop 1).take ((a::l).length-1)=l:=by simp
theorem ahT {w:List UInt8} {F:Nat} (hw:w.length≤2048) (hF:In w F) {k:Ex} {rest:List Ex} (hlen:rest.length≤maxLen) (mh:qv w k) (hk: ∀k∈rest,qv w k):
  ∃R,CC G5 [.str w,.list aa ((k::rest).map enc),uV w F]=some [oV w R]∧Ends w F R (tA ((k::rest).map aL)):=by
 obtain ⟨R0,c0,h0⟩:=mh F hF
 obtain ⟨R,hl,hR⟩:=ahS hw hF hlen hk rest [] k.aL R0 rfl h0
 refine ⟨R,ahC ?_,by simpa[tA] using hR⟩
 unfold VL
 simp only[cr,List.getElem?_cons_zero,Option.bind_some,bz,bA,bB]
 refine (congrArg (fun o=>Option.bind o _) c0).trans ?_
 simp only[Option.bind_some,V.aC,V.bR]
 rw[az,ah (by simp only[List.length_cons];omega),drop_one]
 refine (congrArg (fun o=>Option.bind o _) hl).trans ?_
 rfl
def comb (o:Int) (A B:Lg):Lg:=fun v=>if o=4 then A v∨B v else A v∧B v
theorem ahU {w:List UInt8} {A:Lg} {k:Ex} {F:Nat} {R R2:Nat→Option Nat} {o l:Int} {ks:List V} (hw:w.length≤2048) (hF:In w F) (hR:Ends w F R A) (oj:Ends w F R2 k.aL):
  ∃R',CC Vm [uV w F,.int .i64 o,.int .i64 l,.list aa ks,oV w R,oV w R2]=some [.int .i64 o,.int .i64 l,.list aa ks,oV w R',oV w R2]∧Ends w F R' (comb o A k.aL):=by
 obtain ⟨_,hc,R',rfl,hP⟩:=agX (m:=mW w) (F:=F) (m9 hw)
  (P:=fun t a=> ∃Rt,a=(o,l,ks,Rows (mW w) (w.length+1) Rt,Rows (mW w) (w.length+1) R2)∧PR F R (fun i S=> ∀j,S.testBit j=true↔Pt w (comb o A k.aL) i j) t Rt)
  (fun t a ht dh hP=>by
   obtain ⟨Rt,rfl,hP⟩:=hP
   obtain ⟨S,g1,g2,g3,g4⟩:=qu hR dh
   obtain ⟨T,q1,q2,q3,q4⟩:=qu oj dh
   refine ⟨(o,l,ks,_,_),ahq hw (hF t dh) (by rw[hP.2 t (bU _),g1]) q1,_,rfl,hP.upd fun x=> ?_⟩
   rw[NQ]
   unfold comb
   have a1:=g4 x
   have a2:=q4 x
   unfold Pt at*
   by_cases h4:o=4
   ·rw[ah h4,Ag,a1,a2]
    simp only[ah h4]
    constructor
    ·rintro (⟨h1,U,h3⟩|⟨h1,U,h3⟩)
     ·exact ⟨h1,U,.inl h3⟩
     ·exact ⟨h1,U,.inr h3⟩
    ·rintro ⟨h1,U,h3|h3⟩
     ·exact .inl ⟨h1,U,h3⟩
     ·exact .inr ⟨h1,U,h3⟩
   ·rw[ai h4,aN,a1,a2]
    simp only[ai h4]
    constructor
    ·rintro ⟨⟨h1,U,h3⟩,⟨_,_,h4⟩⟩
     exact ⟨h1,U,h3,h4⟩
    ·rintro ⟨h1,U,h3,h4⟩
     exact ⟨⟨h1,U,h3⟩,⟨h1,U,h4⟩⟩)
  (fun t a dh hP=>by
   obtain ⟨R,h5,hP⟩:=hP
   exact ⟨R,h5,hP.skip dh⟩)
  (o,l,ks,Rows (mW w) (w.length+1) R,Rows (mW w) (w.length+1) R2) ⟨_,rfl,PR.zero⟩
 exact ⟨R',hc,hP.ends hF⟩
theorem ahV {w:List UInt8} {F:Nat} {o l:Int} {es:List V} (hw:w.length≤2048) (hF:In w F) {rest:List Ex} (hlen:rest.length≤maxLen) (hk: ∀k∈rest,qv w k):
  ∀(aH pre:List Ex) (A:Lg) (R:Nat→Option Nat),rest=pre++aH→Ends w F R A→
  ∃R',Loop (C9 CC (bh (mW w) F) (rest.map enc) ((rest.map enc).length:Int) w) (((pre.length:Nat):Int),o,l,es,Rows (mW w) (w.length+1) R)=some (((rest.map enc).length:Int),false,o,l,es,Rows (mW w) (w.length+1) R')∧Ends w F R' ((aH.map aL).foldl (comb o) A):=by
 have hm:=pf
 intro aH
 induction aH with
 | nil=>
  intro pre A R e hR
  rw[dz] at e
  subst e
  refine ⟨R,bj ?_,hR⟩
  simp only[C9,C8,un,bw]
  rw[az,ai (by omega),ct (by omega)]
 | cons k aH ih=>
  intro pre A R e hR
  have yd:k∈rest:=by rw[e];simp
  have aT:pre.length<rest.length:=by rw[e];simp
  obtain ⟨R2,c2,oj⟩:=hk k yd F hF
  obtain ⟨R',c3,sd⟩:=ahU (o:=o) (l:=l) (ks:=es) hw hF hR oj
  have bG:C9 CC (bh (mW w) F) (rest.map enc) ((rest.map enc).length:Int) w (((pre.length:Nat):Int),o,l,es,Rows (mW w) (w.length+1) R)=some (.inl (((pre.length+1:Nat):Int),o,l,es,Rows (mW w) (w.length+1) R')):=by
   have hi:idx (rest.map enc) ((pre.length:Nat):Int)=some k.enc:=by rw[e];exact jD pre aH k
   simp only[C9,C8,un,bw]
   rw[az,ah (by omega),hi]
   simp only[Option.bind_some,bz,bA,bB,V.aC,V.bR]
   refine (congrArg (fun o=>Option.bind o _) c2).trans ?_
   simp only[Option.bind_some,V.aC,V.bR]
   refine (congrArg (fun o=>Option.bind o _) c3).trans ?_
   simp only[Option.bind_some,ek,dL,V.aC,V.bR,V.toInt_int]
   rw[wrap64 (by omega) (by omega)]
   rfl
  obtain ⟨NY,h1,U⟩:=ih (pre++[k]) (comb o A k.aL) R' (by simp[e]) sd
  refine ⟨NY,?_,U⟩
  rw[bW bG]
  simpa using h1
theorem VX {w:List UInt8} {F:Nat} {o l:Int} (hw:w.length≤2048) (hF:In w F) {k:Ex} {rest:List Ex} (hlen:rest.length≤maxLen) (mh:qv w k) (hk: ∀k∈rest,qv w k):
  ∃R,CC BK [.str w,.int .i64 o,.int .i64 l,.list aa ((k::rest).map enc),uV w F]=some [oV w R]∧Ends w F R ((rest.map aL).foldl (comb o) k.aL):=by
 obtain ⟨R0,c0,h0⟩:=mh F hF
 obtain ⟨R,hl,hR⟩:=ahV (o:=o) (l:=l) (es:=(k::rest).map enc) hw hF hlen hk rest [] k.aL R0 rfl h0
 refine ⟨R,ahJ ?_,hR⟩
 unfold VR
 simp only[cr,List.getElem?_cons_zero,Option.bind_some,bz,bA,bB]
 refine (congrArg (fun o=>Option.bind o _) c0).trans ?_
 simp only[Option.bind_some,V.aC,V.bR]
 rw[az,ah (by simp only[List.length_cons];omega),drop_one]
 refine (congrArg (fun o=>Option.bind o _) hl).trans ?_
 rfl
theorem VY {v:List UInt8}: ∀(Ls:List Lg) (A:Lg),Ls.foldl (comb 4) A v↔A v∨∃L∈Ls,L v
 | [],A=>by simp
 | L::Ls,A=>by
  rw[List.foldl_cons,VY Ls]
  simp[comb,or_assoc]
theorem VZ {v:List UInt8}: ∀(Ls:List Lg) (A:Lg),Ls.foldl (comb 6) A v↔A v∧∀L∈Ls,L v
 | [],A=>by simp
 | L::Ls,A=>by
  rw[List.foldl_cons,VZ Ls]
  simp[comb,and_assoc]
theorem V0 {X R:Type} {step:X→Option (X ⊕ R)} {ks:List Ex} (st:Nat→X) (p:Ex→Bool) (r1:Nat→R) (r2:R)
  (h: ∀pre k aH,ks=pre++k::aH→step (st pre.length)=if p k=true then some (.inr (r1 pre.length)) else some (.inl (st (pre.length+1)))) (he:step (st ks.length)=some (.inr r2)):
  ∀aH pre,ks=pre++aH→(aH.any p=true∧∃i,Loop step (st pre.length)=some (r1 i))∨(aH.any p=false∧Loop step (st pre.length)=some r2):=by
 intro aH
 induction aH with
 | nil=>
  intro pre bq
  have:pre.length=ks.length:=by rw[bq];simp
  rw[this]
  exact .inr ⟨rfl,bj he⟩
 | cons k aH ih=>
  intro pre bq
  have h1:=h pre k aH bq
  cases hp:p k with
  | true=>
   rw[ah hp] at h1
   exact .inl ⟨by simp[hp],_,bj h1⟩
  | false=>
   rw[ai (by simp[hp])] at h1
   rw[bW h1]
   have:=ih (pre++[k]) (by rw[bq];simp)
   simpa[hp] using this
end Go.AM
set_option maxRecDepth 100000
namespace Go.AM
open Go.Proofs
noncomputable abbrev V1:Code:=cj Tryz.prog (av.aQ 39)
noncomputable def Dd (C:ae) (t19:List V) (t20 t21:Int) {β:Type} (kn:Int→Option β) (kr:((Bool) ⊕ (Int × Bool))→Option β):Option β:=
 bif decide ((t21:Int)<t20) then
  (idx t19 t21).bind fun x2=>
  (C kH [.int .i64 ((x2.cell 0).toInt),.int .i64 ((x2.cell 1).toInt),.list aa ((x2.cell 2).toList)]).bind fun r3=>
  bif !((V.nth r3 0).toBool) then
  kr (.inl false)
  else
  kn (IntKind.wrap .i64 (t21+1))
 else
  kr (.inr (t21,decide ((t21:Int)<t20)))
noncomputable def tL (C:ae) (t19:List V) (t20:Int):(Int)→Option ((Int) ⊕ ((Bool) ⊕ (Int × Bool))):=fun t21=>Dd C t19 t20 t21 (fun y=>some (.inl y)) (fun r=>some (.inr r))
noncomputable def V2 (C:ae):b8:=fun β n ds k=>
 bif Nat.beq n 161 then bM Ma [false,false,true] [[0],[1,2,0,0]] (@Dd C) ds k else
 none
abbrev ahW (C:ae) (b:bZ):Prop:=b6 Tryz.prog av C (V2 C) 39 (cl Tryz.prog (av.aQ 39)) (av.sin 39).bc.length b
theorem ahX (C:ae):ahW C (.loop (ax [1,0,1,0,1,1,1,1,1,0,0,1,0,0] V1)):=
 bP Ma [false,false,true] [[0],[1,2,0,0]] (@Dd C) (by kernel_rfl) (a9 (bs:=[]) (by kernel_rfl) aw) (fun ds=>by kernel_rfl) (fun i x=>by kernel_rfl) (fun i x β k=>by kernel_rfl) (fun β ds k=>by kernel_rfl)
noncomputable def V3 (C:ae) (aj ar:Int) (ag:List V):Option (List V):=
 bif (aj:Int)==2 then
  bif (aj:Int)==2 then
  some [.bool true]
  else
  bif (aj:Int)==4 then
   (C Hr [.list aa ag]).bind fun r1=>
   some [.bool ((V.nth r1 0).toBool)]
  else
   bif (aj:Int)==5 then
   bif (aj:Int)==5 then
    (Loop (tL C ag (ag.length:Int)) 0).bind (cB (fun (mZ:Bool)=>
     some [.bool mZ]) (un fun (iJ:Int) (mY:Bool)=>
     some [.bool true]))
   else
    bif (aj:Int)==8 then
    bif ((ag.length:Int):Int)==1 then
     (ag[0]?).bind fun x7=>
     (C kH [.int .i64 ((x7.cell 0).toInt),.int .i64 ((x7.cell 1).toInt),.list aa ((x7.cell 2).toList)]).bind fun r8=>
     some [.bool (!((V.nth r8 0).toBool))]
    else
     some [.bool false]
    else
    some [.bool false]
   else
   bif (aj:Int)==6 then
    (Loop (tL C ag (ag.length:Int)) 0).bind (cB (fun (oe:Bool)=>
     some [.bool oe]) (un fun (tz:Int) (rZ:Bool)=>
     some [.bool true]))
   else
    bif (aj:Int)==8 then
    bif ((ag.length:Int):Int)==1 then
     (ag[0]?).bind fun r0=>
     (C kH [.int .i64 ((r0.cell 0).toInt),.int .i64 ((r0.cell 1).toInt),.list aa ((r0.cell 2).toList)]).bind fun iM=>
     some [.bool (!((V.nth iM 0).toBool))]
    else
     some [.bool false]
    else
    some [.bool false]
 else
  bif (aj:Int)==7 then
  some [.bool true]
  else
  bif (aj:Int)==4 then
   (C Hr [.list aa ag]).bind fun nc=>
   some [.bool ((V.nth nc 0).toBool)]
  else
   bif (aj:Int)==5 then
   bif (aj:Int)==5 then
    (Loop (tL C ag (ag.length:Int)) 0).bind (cB (fun (yS:Bool)=>
     some [.bool yS]) (un fun (T4:Int) (ad9:Bool)=>
     some [.bool true]))
   else
    bif (aj:Int)==8 then
    bif ((ag.length:Int):Int)==1 then
     (ag[0]?).bind fun wa=>
     (C kH [.int .i64 ((wa.cell 0).toInt),.int .i64 ((wa.cell 1).toInt),.list aa ((wa.cell 2).toList)]).bind fun eV=>
     some [.bool (!((V.nth eV 0).toBool))]
    else
     some [.bool false]
    else
    some [.bool false]
   else
   bif (aj:Int)==6 then
    (Loop (tL C ag (ag.length:Int)) 0).bind (cB (fun (T7:Bool)=>
     some [.bool T7]) (un fun (Nu:Int) (Nw:Bool)=>
     some [.bool true]))
   else
    bif (aj:Int)==8 then
    bif ((ag.length:Int):Int)==1 then
     (ag[0]?).bind fun iL=>
     (C kH [.int .i64 ((iL.cell 0).toInt),.int .i64 ((iL.cell 1).toInt),.list aa ((iL.cell 2).toList)]).bind fun NZ=>
     some [.bool (!((V.nth NZ 0).toBool))]
    else
     some [.bool false]
    else
    some [.bool false]
theorem ahY {aj ar:Int} {ag:List V} {r:Option (List V)} (h:V3 CC aj ar ag=r):CC kH [.int .i64 aj,.int .i64 ar,.list aa ag]=r:=
 aZ (key:=39) (L:=V2 CC) (bs:=[.loop (ax [1,0,1,0,1,1,1,1,1,0,0,1,0,0] V1)]) (by kernel_rfl) (br (ahX CC) aw) (aX (by kernel_rfl) h)
noncomputable def V4 (C:ae) (s:List V):Option (List V):=
 (C Hs [.list aa s]).bind fun r1=>
 some [.bool (decide ((((V.nth r1 0).toInt):Int)≥0))]
theorem ahZ {s:List V} {r:Option (List V)} (h:V4 CC s=r):CC Hr [.list aa s]=r:=
 aZ (key:=145) (L:=bX) (bs:=[]) (by kernel_rfl) aw (aX (by kernel_rfl) h)
noncomputable abbrev V5:Code:=cj Tryz.prog (av.aQ 146)
noncomputable def De (C:ae) (s:List V) (t7 t8:Int) {β:Type} (kn:Int→Option β) (kr:((Int) ⊕ (Int × Bool))→Option β):Option β:=
 bif decide ((t8:Int)<t7) then
  (idx s t8).bind fun x1=>
  (C kH [.int .i64 ((x1.cell 0).toInt),.int .i64 ((x1.cell 1).toInt),.list aa ((x1.cell 2).toList)]).bind fun r2=>
  bif (V.nth r2 0).toBool then
  kr (.inl t8)
  else
  kn (IntKind.wrap .i64 (t8+1))
 else
  kr (.inr (t8,decide ((t8:Int)<t7)))
noncomputable def H9 (C:ae) (s:List V) (t7:Int):(Int)→Option ((Int) ⊕ ((Int) ⊕ (Int × Bool))):=fun t8=>De C s t7 t8 (fun y=>some (.inl y)) (fun r=>some (.inr r))
noncomputable def V6 (C:ae):b8:=fun β n ds k=>
 bif Nat.beq n 33 then bM Ns [false,false,true] [[0],[1,2,0,0]] (@De C) ds k else
 none
abbrev ah0 (C:ae) (b:bZ):Prop:=b6 Tryz.prog av C (V6 C) 146 (cl Tryz.prog (av.aQ 146)) (av.sin 146).bc.length b
theorem ah1 (C:ae):ah0 C (.loop (ax [1,0,1,0,0] V5)):=
 bP Ns [false,false,true] [[0],[1,2,0,0]] (@De C) (by kernel_rfl) (a9 (bs:=[]) (by kernel_rfl) aw) (fun ds=>by kernel_rfl) (fun i x=>by kernel_rfl) (fun i x β k=>by kernel_rfl) (fun β ds k=>by kernel_rfl)
noncomputable def N0 (C:ae) (s:List V):Option (List V):=
 (Loop (H9 C s (s.length:Int)) 0).bind (cB (fun (kL:Int)=>
  some [.int .i64 kL]) (un fun (mZ:Int) (iJ:Bool)=>
  some [.int .i64 (-1)]))
theorem V7 {s:List V} {r:Option (List V)} (h:N0 CC s=r):CC Hs [.list aa s]=r:=
 aZ (key:=146) (L:=V6 CC) (bs:=[.loop (ax [1,0,1,0,0] V5)]) (by kernel_rfl) (br (ah1 CC) aw) (aX (by kernel_rfl) h)
noncomputable def V8 (C:ae) (aj ar:Int) (ag:List V):Option (List V):=
 (C vw [.int .i64 aj,.int .i64 ar,.list aa ag,.int .i64 6]).bind fun r1=>
 some [.bool ((((V.nth r1 0).toInt):Int)==0)]
theorem ah2 {aj ar:Int} {ag:List V} {r:Option (List V)} (h:V8 CC aj ar ag=r):CC yw [.int .i64 aj,.int .i64 ar,.list aa ag]=r:=
 aZ (key:=26) (L:=bX) (bs:=[]) (by kernel_rfl) aw (aX (by kernel_rfl) h)
noncomputable def V9 (C:ae) (aj ar:Int) (ag:List V):Option (List V):=
 (C GR [.int .i64 aj,.int .i64 ar,.list aa ag,.int .i64 6]).bind fun r1=>
 some [.bool ((((V.nth r1 0).toInt):Int)==0)]
theorem ah3 {aj ar:Int} {ag:List V} {r:Option (List V)} (h:V9 CC aj ar ag=r):CC G3 [.int .i64 aj,.int .i64 ar,.list aa ag]=r:=
 aZ (key:=32) (L:=bX) (bs:=[]) (by kernel_rfl) aw (aX (by kernel_rfl) h)
noncomputable def Wa (C:ae) (aj ar:Int) (ag:List V):Option (List V):=
 (C vu [.int .i64 aj,.int .i64 ar,.list aa ag,.int .i64 400]).bind fun r1=>
 some [.int .i64 ((V.nth r1 0).toInt)]
theorem ah4 {aj ar:Int} {ag:List V} {r:Option (List V)} (h:Wa CC aj ar ag=r):CC GS [.int .i64 aj,.int .i64 ar,.list aa ag]=r:=
 aZ (key:=6) (L:=bX) (bs:=[]) (by kernel_rfl) aw (aX (by kernel_rfl) h)
end Go.AM
set_option maxRecDepth 100000
namespace Go.AM
open Go.Proofs Ex
theorem Df (m n:Int):(m==n)=decide (m=n):=by rw[nu];simp
theorem N3 (e:Ex) (h:e.Ok):CC yw (bY e [])=some [.bool (decide (e.val 6=0))]:=by
 refine ah2 ?_
 unfold V8
 rw[HL e h]
 simp only[Option.bind_some,V.aC,V.toInt_int]
 rw[Df]
theorem ah5 (e:Ex) (h:e.Ok):CC G3 (bY e [])=some [.bool (decide (e.val 6=0))]:=by
 refine ah3 ?_
 unfold V9
 rw[afP e h]
 simp only[Option.bind_some,V.aC,V.toInt_int]
 rw[Df]
theorem nf {e:Ex} (h:e.val 6=0):e.depth≤40∧e.size≤400∧e.wf 6=true:=by
 unfold Ex.val at h
 rw[ah (by omega)] at h
 split at h
 ·rename_i h1
  split at h
  ·rename_i U;exact ⟨h1.1,h1.2,U⟩
  ·omega
 ·omega
theorem Dg {ks:List Ex}: ∀{k},k∈ks→k.size≤aR ks:=by
 induction ks with
 | nil=>intro k h;simp at h
 | cons a ks ih=>
  intro k h
  simp only[aR]
  rcases dp.1 h with rfl|h
  ·omega
  ·have:=ih h;omega
mutual
def Ex.dc:Ex→Bool
 | .node o _ ks=>if o=2∨o=7 then true else if o=4 then lD ks else if o=5∨o=6 then om ks else if o=8 then !(lD ks) else false
def Ex.lD:List Ex→Bool
 | []=>false
 | k::ks=>dc k||lD ks
def Ex.om:List Ex→Bool
 | []=>true
 | k::ks=>dc k&&om ks
end
theorem Ia: ∀ks,lD ks=ks.any dc
 | []=>by simp[lD]
 | k::ks=>by simp[lD,Ia ks]
theorem Ib: ∀ks,om ks= !(ks.any fun k=> !(dc k))
 | []=>by simp[om]
 | k::ks=>by simp[om,Ib ks]
theorem ah6 {letters:Int} {ks:List Ex} (h:ib letters ks=true): ∀k∈ks,k.wf letters=true:=by
 induction ks with
 | nil=>simp
 | cons a ks ih=>
  simp only[ib,aN] at h
  intro k hk
  rcases dp.1 hk with rfl|hk
  ·exact h.1
  ·exact ih h.2 k hk
theorem gf {letters o l:Int} {ks:List Ex} (h:(Ex.node o l ks).wf letters=true):dx o l ks.length letters=true∧∀k∈ks,k.wf letters=true:=by
 simp only[Ex.wf,aN] at h
 exact ⟨h.1,ah6 h.2⟩
theorem ah7 {letters l n:Int} (h:dx 8 l n letters=true):n=1:=by
 simp[dx] at h;exact h.2
theorem ah8 {ks:List Ex} (hlen:ks.length≤maxLen) (ih: ∀k∈ks,CC kH (bY k [])=some [.bool k.dc]):CC Hr [.list aa (ks.map enc)]=some [.bool (lD ks)]:=by
 have:=pf
 refine ahZ ?_
 unfold V4
 have hl:=V0 (step:=H9 CC (ks.map enc) ((ks.map enc).length:Int)) (ks:=ks) (fun i=>(i:Int)) dc (fun i=> .inl (i:Int)) (.inr (((ks.length:Nat):Int),false))
  (fun pre k aH bq=>by
   have cb:pre.length<ks.length:=by rw[bq];simp
   have hm:k∈ks:=by rw[bq];simp
   simp only[H9,De,bw,az]
   rw[ah (by omega),show idx (ks.map enc) (pre.length:Int)=some k.enc by rw[bq];exact jD _ _ _]
   simp only[Option.bind_some,bz,bA,bB]
   rw[ih k hm]
   simp only[Option.bind_some,V.aC,V.cN]
   rw[wrap64 (by omega) (by omega)]
   cases k.dc<;>simp)
  (by
   simp only[H9,De,bw,az]
   rw[ai (by omega)]
   simp) ks [] rfl
 simp only[List.length_nil,Int.ofNat_zero,Int.natCast_zero] at hl
 rcases hl with ⟨h1,i,U⟩|⟨h1,U⟩
 ·have hi:CC Hs [.list aa (ks.map enc)]=some [.int .i64 (i:Int)]:=by
   refine V7 ?_
   unfold N0
   erw [U];rfl
  rw[hi,Ia,h1]
  simp
 ·have hi:CC Hs [.list aa (ks.map enc)]=some [.int .i64 (-1)]:=by
   refine V7 ?_
   unfold N0
   erw [U];rfl
  rw[hi,Ia,h1]
  simp
theorem ah9 {letters:Int}: ∀e:Ex,e.Ok→e.wf letters=true→CC kH (bY e [])=some [.bool e.dc]:=
 ind fun o l ks ih ay rR=>by
  have:=pf
  have hlen:=ay.len
  obtain ⟨w1,w2⟩:=gf rR
  have lk: ∀k∈ks,CC kH (bY k [])=some [.bool k.dc]:=fun k hk=>ih k hk (ay.oa k hk) (w2 k hk)
  refine ahY ?_
  have jh:(Loop (tL CC (ks.map enc) ((ks.map enc).length:Int)) 0).bind (cB (fun (t:Bool)=>some [V.bool t]) (un fun (_:Int) (_:Bool)=>some [V.bool true]))=some [.bool (om ks)]:=by
   have hl:=V0 (step:=tL CC (ks.map enc) ((ks.map enc).length:Int)) (ks:=ks) (fun i=>(i:Int)) (fun k=> !(dc k)) (fun _=> .inl false) (.inr (((ks.length:Nat):Int),false))
    (fun pre k aH bq=>by
     have cb:pre.length<ks.length:=by rw[bq];simp
     have hm:k∈ks:=by rw[bq];simp
     simp only[tL,Dd,bw,az]
     rw[ah (by omega),show idx (ks.map enc) (pre.length:Int)=some k.enc by rw[bq];exact jD _ _ _]
     simp only[Option.bind_some,bz,bA,bB]
     rw[lk k hm]
     simp only[Option.bind_some,V.aC,V.cN]
     rw[wrap64 (by omega) (by omega)]
     cases k.dc<;>simp)
    (by
     simp only[tL,Dd,bw,az]
     rw[ai (by omega)]
     simp) ks [] rfl
   simp only[List.length_nil,Int.ofNat_zero,Int.natCast_zero] at hl
   rcases hl with ⟨h1,i,U⟩|⟨h1,U⟩
   ·erw [U];rw[Ib,h1];rfl
   ·erw [U];rw[Ib,h1];rfl
  unfold V3
  simp only[Ex.op,Ex.letter,Ex.kids]
  rw[jh,ah8 hlen lk]
  simp only[dc]
  rcases Cg o with rfl|rfl|rfl|rfl|rfl|rfl|rfl|rfl|ho
  case inr.inr.inr.inr.inr.inr.inr.inr=>
   have n2:o≠2:=by omega
   have n4:o≠4:=by omega
   have n5:o≠5:=by omega
   have n6:o≠6:=by omega
   have n7:o≠7:=by omega
   have n8:o≠8:=by omega
   simp[n2,n4,n5,n6,n7,n8]
  case inr.inr.inr.inr.inr.inr.inr.inl=>
   have h1:=ah7 w1
   match ks,h1,lk with
   | [k],_,lk=>
    have:=lk k (by simp)
    simp only[cr,fl,List.length_singleton,List.getElem?_cons_zero,Option.bind_some,bz,bA,bB]
    rw[this]
    simp[lD]
  all_goals simp
theorem aia (e:Ex) (h:e.Ok) (hs:e.size≤400):CC GS (bY e [])=some [.int .i64 e.size]:=by
 obtain ⟨d,e1,e2⟩:=Us e h 400 (by omega) (by omega)
 refine ah4 ?_
 unfold Wa
 rw[e1,show min (e.size:Int) (400+1)=e.size by omega]
 simp
end Go.AM
set_option maxRecDepth 100000
namespace Go.AM
open Go.Proofs
noncomputable def Wb (C:ae) (aj ar:Int) (ag:List V) (w:List UInt8):Option (List V):=
 (C yw [.int .i64 aj,.int .i64 ar,.list aa ag]).bind fun r1=>
 bif !((V.nth r1 0).toBool) then
  some [.bool false]
 else
  (C BH [.str w,.int .i64 6]).bind fun r2=>
  bif !((V.nth r2 0).toBool) then
  some [.bool false]
  else
  (C o9 [.str w]).bind fun r3=>
  (C vy [.int .i64 0,.list aJ ((V.nth r3 0).toList)]).bind fun r4=>
  (C mS [.str w,.int .i64 aj,.int .i64 ar,.list aa ag,.list aJ ((V.nth r4 0).toList)]).bind fun r5=>
  bif decide (0<(((V.nth r5 0).toList).length:Int)) then
   (((V.nth r5 0).toList)[0]?).bind fun x6=>
   (c9 Tryz.prog aD ((V.nth r5 0).toList) [(0,0)]).bind fun x7=>
   (C yx [.list aJ x7.toList,.int .i64 (w.length:Int)]).bind fun r8=>
   some [.bool ((V.nth r8 0).toBool)]
  else none
theorem aib {aj ar:Int} {ag:List V} {w:List UInt8} {r:Option (List V)} (h:Wb CC aj ar ag w=r):CC BF [.int .i64 aj,.int .i64 ar,.list aa ag,.str w]=r:=
 aZ (key:=12) (L:=bX) (bs:=[]) (by kernel_rfl) aw (aX (by kernel_rfl) h)
end Go.AM
set_option maxRecDepth 100000
namespace Go.AM
open Go.Proofs Ex
theorem aic {w:List UInt8} {F:Nat} (hw:w.length≤2048) (hF:In w F):
  ∃a:Nat,CC Vl [uV w F,.int .i64 ((w.length+1:Nat):Int)]=some [.int .i64 (a:Int)]∧a≤w.length+1∧∀i,F.testBit i=true→a≤i:=by
 obtain ⟨_,hc,a,rfl,h1,U⟩:=agU (m:=mW w) (F:=F) (m9 hw)
  (P:=fun t z=> ∃a:Nat,z=(a:Int)∧a≤w.length+1∧∀i,i<t→F.testBit i=true→a≤i)
  (fun t z ht dh hP=>by
   obtain ⟨a,rfl,h1,U⟩:=hP
   refine ⟨_,ahk,_,rfl,by omega,fun i hi hb=> ?_⟩
   by_cases e:i=t
   ·subst e;omega
   ·have:=U i (by omega) hb;omega)
  (fun t z dh hP=>by
   obtain ⟨a,h,h1,U⟩:=hP
   refine ⟨a,h,h1,fun i hi hb=> ?_⟩
   have:i≠t:=by rintro rfl;rw[dh] at hb;cases hb
   exact U i (by omega) hb)
  ((w.length+1:Nat):Int) ⟨_,rfl,bU _,fun _ h=>by omega⟩
 exact ⟨a,hc,h1,fun i hi=>U i (by have:=hF i hi;have:= @CZ w;omega) hi⟩
theorem aid {w:List UInt8} {k0 k1:Int} {k2:List V} {a:Nat} (hw:w.length≤2048):
  ∀d c S,a≤c→c+d=w.length+1→(∀x,S.testBit x=true↔a≤x∧x<c)→
  ∃S':Nat,Loop (C4 CC w k0 k1 k2 (a:Int)) ((c:Int),bh (mW w) S)=some (((w.length+1:Nat):Int),false,bh (mW w) S')∧∀x,S'.testBit x=true↔a≤x∧x≤w.length:=by
 intro d
 induction d with
 | zero=>
  intro c S _ hc hS
  have hc:c=w.length+1:=by omega
  subst hc
  refine ⟨S,bj ?_,fun x=>(hS x).trans ⟨fun h=>by omega,fun h=>by omega⟩⟩
  simp only[C4,C3,un]
  rw[az,ai (by omega),ct (by omega)]
 | succ d ih=>
  intro c S ha hc hS
  have bG:C4 CC w k0 k1 k2 (a:Int) ((c:Int),bh (mW w) S)=some (.inl (((c+1:Nat):Int),bh (mW w) (S|||2^c))):=by
   simp only[C4,C3,un]
   rw[az,ah (by omega),NC (pq (by omega)) (by omega)]
   simp only[Option.bind_some,V.aC,V.bR]
   rw[wrap64 (by omega) (by omega)]
   rfl
  rw[bW bG]
  refine ih (c+1) _ (by omega) (by omega) fun x=> ?_
  rw[yZ,hS x,y5]
  omega
theorem aie {w:List UInt8} {A:Lg} {i S:Nat} {Rt:Nat→Option Nat} (hw:w.length≤2048) (hi:i≤w.length)
  (hS: ∀j,S.testBit j=true↔Pt w A i j) (hR: ∀j,i<j→j≤w.length→∃T:Nat,Rt j=some T∧∀x,T.testBit x=true↔Pt w (dI A) j x):
  ∃O:Nat,CC Vn [uV w S,uV w (2^i),oV w Rt]=some [oV w Rt,uV w O]∧∀x,O.testBit x=true↔Pt w (dI A) i x:=by
 have Wc:In w S:=Uw hS
 obtain ⟨_,hc,O,rfl,hO⟩:=agY (m:=mW w) (F:=S) (m9 hw)
  (P:=fun t a=> ∃O:Nat,a=(Rows (mW w) (w.length+1) Rt,bh (mW w) O)∧∀x,O.testBit x=true↔x=i∨∃j,j<t∧i<j∧S.testBit j=true∧Pt w (dI A) j x)
  (fun t a ht dh hP=>by
   obtain ⟨O,rfl,hO⟩:=hP
   have N4:=Wc t dh
   have hit:=((hS t).1 dh).1
   by_cases Dh:O.testBit t=true
   ·refine ⟨(_,_),VE (S:=0) hw N4 (fun h=>by rw[Dh] at h;cases h) (fun _ _=>by simp),_,rfl,fun x=> ?_⟩
    rw[ah Dh,hO x]
    constructor
    ·rintro (h|⟨j,h1,U⟩)
     ·exact .inl h
     ·exact .inr ⟨j,by omega,U⟩
    ·rintro (h|⟨j,h1,U,h3,h4⟩)
     ·exact .inl h
     ·by_cases e:j=t
      ·subst e
       rcases (hO j).1 Dh with h|⟨j',g1,g2,g3,g4⟩
       ·omega
       ·exact .inr ⟨j',g1,g2,g3,NA g4 h4⟩
      ·exact .inr ⟨j,by omega,U,h3,h4⟩
   ·have bD: ¬t=i:=fun e=>Dh ((hO t).2 (.inl e))
    obtain ⟨T,q1,q2⟩:=hR t (by omega) N4
    refine ⟨(_,_),VE (S:=T) hw N4 (fun _=>q1) (fun x hx=>Ux q2 fun h=>by have:=h.1;omega),_,rfl,fun x=> ?_⟩
    rw[ai Dh,yZ,hO x,q2 x]
    constructor
    ·rintro ((h|⟨j,h1,U⟩)|h)
     ·exact .inl h
     ·exact .inr ⟨j,by omega,U⟩
     ·exact .inr ⟨t,by omega,by omega,dh,h⟩
    ·rintro (h|⟨j,h1,U,h3,h4⟩)
     ·exact .inl (.inl h)
     ·by_cases e:j=t
      ·subst e;exact .inr h4
      ·exact .inl (.inr ⟨j,by omega,U,h3,h4⟩))
  (fun t a dh hP=>by
   obtain ⟨O,h,hO⟩:=hP
   refine ⟨O,h,fun x=>(hO x).trans ⟨?_,?_⟩⟩
   ·rintro (h|⟨j,h1,U⟩)
    ·exact .inl h
    ·exact .inr ⟨j,by omega,U⟩
   ·rintro (h|⟨j,h1,U,h3,h4⟩)
    ·exact .inl h
    ·have:j≠t:=by rintro rfl;rw[dh] at h3;cases h3
     exact .inr ⟨j,by omega,U,h3,h4⟩)
  (Rows (mW w) (w.length+1) Rt,bh (mW w) (2^i)) ⟨_,rfl,fun x=>by rw[y5];exact ⟨.inl,fun h=>by rcases h with h|⟨j,h,_⟩;exact h;omega⟩⟩
 refine ⟨O,hc,fun x=>(hO x).trans ?_⟩
 rw[afU]
 constructor
 ·rintro (h|⟨j,h1,U,h3,h4⟩)
  ·exact .inl ⟨h.symm,by omega⟩
  ·exact .inr ⟨j,U,(hS j).1 h3,h4⟩
 ·rintro (⟨h,_⟩|⟨j,U,h3,h4⟩)
  ·exact .inl h.symm
  ·have:=(hS j).2 h3
   exact .inr ⟨j,by have:=Wc j this;have:= @CZ w;omega,U,this,h4⟩
theorem aif {w:List UInt8} {A:Lg} {a Z:Nat} {R1:Nat→Option Nat} (hw:w.length≤2048) (ha:a≤w.length+1) (hZ: ∀x,Z.testBit x=true↔a≤x∧x≤w.length) (N5:Ends w Z R1 A):
  ∀d c Rt,a≤c→c=a+d→c≤w.length+1→(∀j,c≤j→j≤w.length→∃T:Nat,Rt j=some T∧∀x,T.testBit x=true↔Pt w (dI A) j x)→
  ∃R',Loop (ze CC w (a:Int) (Rows (mW w) (w.length+1) R1)) ((c:Int)-1,Rows (mW w) (w.length+1) Rt)=some ((a:Int)-1,false,Rows (mW w) (w.length+1) R')∧
   ∀j,a≤j→j≤w.length→∃T:Nat,R' j=some T∧∀x,T.testBit x=true↔Pt w (dI A) j x:=by
 intro d
 induction d with
 | zero=>
  intro c Rt _ hc _ hR
  have hc:c=a:=by omega
  subst hc
  refine ⟨Rt,bj ?_,hR⟩
  simp only[ze,C6,un]
  rw[az,ai (by omega),ct (by omega)]
 | succ d ih=>
  intro c Rt hac hc hcn hR
  obtain ⟨i,rfl⟩: ∃i,c=i+1:=⟨c-1,by omega⟩
  have kB:i≤w.length:=by omega
  obtain ⟨S,g1,g2⟩:=N5 i ((hZ i).2 ⟨by omega,kB⟩)
  obtain ⟨O,c3,hO⟩:=aie hw kB g2 (Rt:=Rt) fun j h1 U=>hR j (by omega) U
  have bG:ze CC w (a:Int) (Rows (mW w) (w.length+1) R1) (((i+1:Nat):Int)-1,Rows (mW w) (w.length+1) Rt)=some (.inl ((i:Int)-1,Rows (mW w) (w.length+1) (upd Rt i O))):=by
   have e:((i+1:Nat):Int)-1=(i:Int):=by omega
   rw[e]
   simp only[ze,C6,un]
   rw[az,ah (by omega),tK hw]
   simp only[Option.bind_some,V.aC,V.bR]
   rw[NC (pq kB) (by omega)]
   simp only[Option.bind_some,V.aC,V.bR,Nat.zero_or,cu,az,Int.toNat_natCast,kO,jY (show i<w.length+1 by omega),qp (show i<w.length+1 by omega) g1]
   have t7:(0:Int)≤(i:Int):=by omega
   have t8:(i:Int)<((w.length+1:Nat):Int):=by omega
   simp only[t7,t8,cU]
   refine (congrArg (fun o=>Option.bind o _) c3).trans ?_
   simp only[Option.bind_some,ek,dL,V.aC,V.bR,kO,jY (show i<w.length+1 by omega),vQ,t7,t8,cU]
   rw[wrap64 (by omega) (by omega)]
  rw[bW bG]
  refine ih i _ (by omega) (by omega) (by omega) fun j h1 U=> ?_
  by_cases e:j=i
  ·subst e;exact ⟨O,HR,hO⟩
  ·rw[NG e];exact hR j (by omega) U
theorem aih {w:List UInt8} {F:Nat} {k:Ex} (hw:w.length≤2048) (hF:In w F) (hk:qv w k):
  ∃R,CC G6 (.str w::bY k [uV w F])=some [oV w R]∧Ends w F R (dI k.aL):=by
 obtain ⟨a,c1,ha,FX⟩:=aic hw hF
 obtain ⟨Z,c2,hZ⟩:=aid (k0:=k.op) (k1:=k.letter) (k2:=k.kids.map enc) (a:=a) hw (w.length+1-a) a 0 (bU _) (by omega) (fun x=>⟨fun h=>by simp at h,fun h=>by omega⟩)
 obtain ⟨R1,c3,N5⟩:=hk Z fun x hx=>((hZ x).1 hx).2
 obtain ⟨R',c4,sd⟩:=aif hw ha hZ N5 (w.length+1-a) (w.length+1) (fun _=>none) ha (by omega) (bU _) (fun j h1 U=>by omega)
 refine ⟨R',ahG ?_,fun i hi=>sd i (FX i hi) (hF i hi)⟩
 unfold VO
 have e1:IntKind.wrap .i64 ((w.length:Int)+1)=((w.length+1:Nat):Int):=by rw[wrap64 (by omega) (by omega)];rfl
 rw[tK hw,e1]
 simp only[Option.bind_some,V.aC,V.bR]
 refine (congrArg (fun o=>Option.bind o _) c1).trans ?_
 simp only[Option.bind_some,V.aC,V.toInt_int]
 refine (congrArg (fun o=>Option.bind o _) c2).trans ?_
 simp only[Option.bind_some,un]
 refine (congrArg (fun o=>Option.bind o _) c3).trans ?_
 simp only[Option.bind_some,V.aC,V.bR,cu,az,yi,Int.toNat_natCast]
 rw[ah (by omega),ah (by omega),ah (by rw[n0];omega)]
 have e2:(w.length:Int)=((w.length+1:Nat):Int)-1:=by omega
 rw[UU (m:=mW w)]
 have c5:Loop (ze CC w (a:Int) (Rows (mW w) (w.length+1) R1)) ((w.length:Int),Rows (mW w) (w.length+1) fun _=>none)=some ((a:Int)-1,false,Rows (mW w) (w.length+1) R'):=by rw[e2];exact c4
 refine (congrArg (fun o=>Option.bind o _) c5).trans ?_
 rfl
theorem aii {w:List UInt8} (hw:w.length≤2048) (hl: ∀i,i<w.length→0≤cZ w i): ∀e:Ex,e.Ok→e.wf 6=true→qv w e:=
 ind fun o l ks ih ay rR F hF=>by
  obtain ⟨hs,N6⟩:=gf rR
  have hk: ∀k∈ks,qv w k:=fun k hk=>ih k hk (ay.oa k hk) (N6 k hk)
  have hlen:=ay.len
  have nJ:=pf
  show∃R,CC mS [.str w,.int .i64 o,.int .i64 l,.list aa (ks.map enc),uV w F]=some [oV w R]∧Ends w F R (Ex.node o l ks).aL
  rw[kM]
  unfold dx at hs
  have e1:IntKind.wrap .i64 ((w.length:Int)+1)=((w.length+1:Nat):Int):=by rw[wrap64 (by omega) (by omega)];rfl
  have base:(o=1∨o=2∨o=3)→∃R,CC mS [.str w,.int .i64 o,.int .i64 l,.list aa (ks.map enc),uV w F]=some [oV w R]∧Ends w F R (dv o l (ks.map aL)):=by
   intro ho
   obtain ⟨R,hc,hR⟩:=ahO (l:=l) (ks:=ks.map enc) hw hl ho hF
   have el:dv o l (ks.map aL)=dv o l []:=by
    funext v;unfold dv
    rcases ho with rfl|rfl|rfl<;>simp
   refine ⟨R,zb ?_,by rw[el];exact hR⟩
   unfold wc
   rw[e1]
   simp only[dC,cu,az,yi,Int.toNat_natCast]
   rw[ai (by omega),ai (by omega),ai (by omega),ai (by omega),ai (by omega),ah (by omega),ah (by omega),ah (by rw[n0];omega)]
   rw[UU (m:=mW w)]
   refine (congrArg (fun o=>Option.bind o _) hc).trans ?_
   simp only[Option.bind_some,ek,dL,V.aC,V.bR]
  by_cases h3:o=3
  ·exact base (by omega)
  rw[ai h3] at hs
  simp only[aN] at hs
  obtain ⟨_,hs⟩:=hs
  by_cases Wd:o=1∨o=2
  ·exact base (by omega)
  rw[ai Wd] at hs
  by_cases wg:o=7∨o=8
  ·rw[ah wg] at hs
   have hs:=gP hs
   obtain ⟨k,rfl⟩: ∃k,ks=[k]:=by
    match ks,hs with
    | [k],_=>exact ⟨k,rfl⟩
    | [],h=>simp at h
    | _::_::_,h=>simp at h;omega
   rcases wg with rfl|rfl
   ·obtain ⟨R,hc,hR⟩:=aih hw hF (hk k (by simp))
    refine ⟨R,zb ?_,by
     have:dv 7 l ([k].map aL)=dI k.aL:=by funext v;simp[dv,pg]
     rw[this];exact hR⟩
    unfold wc
    simp only[dC]
    rw[ai (by omega),ah trivial]
    simp only[cr,fl,List.getElem?_cons_zero,Option.bind_some,bz,bA,bB]
    refine (congrArg (fun o=>Option.bind o _) hc).trans ?_
    simp only[Option.bind_some,V.aC,V.bR]
   ·obtain ⟨R0,F0,Kd⟩:=hk k (by simp) F hF
    obtain ⟨R,hc,hR⟩:=ahP hw hF F0 Kd
    refine ⟨R,zb ?_,by
     have:dv 8 l ([k].map aL)=fun v=> ¬k.aL v:=by funext v;simp[dv,pg]
     rw[this];exact hR⟩
    unfold wc
    simp only[dC]
    rw[ai (by omega),ai (by omega),ai (by omega),ai (by omega),ah trivial]
    simp only[cr,fl,List.getElem?_cons_zero,Option.bind_some,bz,bA,bB]
    refine (congrArg (fun o=>Option.bind o _) hc).trans ?_
    simp only[Option.bind_some,V.aC,V.bR]
  ·rw[ai wg] at hs
   obtain ⟨h4,h6,hn⟩:=gP hs
   match ks,hn,hk,hlen with
   | k::rest,hn,hk,hlen=>
    have mh:=hk k (by simp)
    have p5: ∀k'∈rest,qv w k':=fun k' h=>hk k' (by simp[h])
    have N7:rest.length≤maxLen:=by simp at hlen;omega
    have N8:o=4∨o=5∨o=6:=by omega
    rcases N8 with rfl|rfl|rfl
    ·obtain ⟨R,hc,hR⟩:=VX (o:=4) (l:=l) hw hF N7 mh p5
     refine ⟨R,zb ?_,by
      have:dv 4 l ((k::rest).map aL)=(rest.map aL).foldl (comb 4) k.aL:=by
       funext v;refine propext ?_;rw[VY];simp[dv]
      rw[this];exact hR⟩
     unfold wc
     simp only[dC]
     rw[ai (by omega),ai (by omega),ah trivial,ah trivial]
     refine (congrArg (fun o=>Option.bind o _) hc).trans ?_
     simp only[Option.bind_some,V.aC,V.bR]
    ·obtain ⟨R,hc,hR⟩:=ahT hw hF N7 mh p5
     refine ⟨R,zb ?_,by
      have:dv 5 l ((k::rest).map aL)=tA ((k::rest).map aL):=by funext v;simp[dv]
      rw[this];exact hR⟩
     unfold wc
     simp only[dC]
     rw[ah trivial]
     refine (congrArg (fun o=>Option.bind o _) hc).trans ?_
     simp only[Option.bind_some,V.aC,V.bR]
    ·obtain ⟨R,hc,hR⟩:=VX (o:=6) (l:=l) hw hF N7 mh p5
     refine ⟨R,zb ?_,by
      have:dv 6 l ((k::rest).map aL)=(rest.map aL).foldl (comb 6) k.aL:=by
       funext v;refine propext ?_;rw[VZ];simp[dv]
      rw[this];exact hR⟩
     unfold wc
     simp only[dC]
     rw[ai (by omega),ai (by omega),ai (by omega),ah trivial]
     refine (congrArg (fun o=>Option.bind o _) hc).trans ?_
     simp only[Option.bind_some,V.aC,V.bR]
noncomputable def wh (e:Ex) (w:List UInt8):Bool:= @decide (e.val 6=0∧kN w 6∧e.aL w) (Classical.propDecidable _)
theorem Di {e:Ex} {w:List UInt8}:wh e w=true↔e.val 6=0∧kN w 6∧e.aL w:=by
 unfold wh
 exact ⟨fun h=> @gP _ (Classical.propDecidable _) h,fun h=> @eC _ (Classical.propDecidable _) h⟩
theorem We (e:Ex) (h:e.Ok) (w:List UInt8):CC BF (bY e [.str w])=some [.bool (wh e w)]:=by
 refine aib ?_
 unfold Wb
 refine (congrArg (fun o=>Option.bind o _) (N3 e h)).trans ?_
 simp only[Option.bind_some,V.aC,V.cN,ga,az]
 by_cases h1:e.val 6=0
 ·rw[ah h1,UF]
  simp only[Option.bind_some,V.aC,V.cN,az]
  by_cases U:kN w 6
  ·rw[ah U]
   have hw:=U.2.2.1
   have hl: ∀i,i<w.length→0≤cZ w i:=fun i hi=>(U.2.2.2 i hi).1
   obtain ⟨R,hc,hR⟩:=aii hw hl e h (nf h1).2.2 (2^0) (fun i hi=>by rw[y5] at hi;omega)
   obtain ⟨S,g1,g2⟩:=hR 0 (y5.2 rfl)
   rw[tK hw]
   simp only[Option.bind_some,V.aC,V.bR]
   have ha:=NC (m:=mW w) (S:=0) (i:=0) (by unfold mW;omega) (by omega)
   refine (congrArg (fun o=>Option.bind o _) ha).trans ?_
   simp only[Option.bind_some,V.aC,V.bR,Nat.zero_or]
   refine (congrArg (fun o=>Option.bind o _) hc).trans ?_
   simp only[Option.bind_some,V.aC,V.bR,kO,jY (show 0<w.length+1 by omega),qp (show 0<w.length+1 by omega) g1]
   rw[ah (by omega),ND (pq (bU _)) (by omega)]
   simp only[Option.bind_some,V.aC,V.cN]
   congr 3
   rw[nu,g2,Di]
   unfold Pt
   rw[afQ]
   exact ⟨fun h=>⟨h1,U,h.2.2⟩,fun h=>⟨by omega,bU _,h.2.2⟩⟩
  ·rw[ai U]
   have:wh e w=false:=by rw[←Bool.not_eq_true,Di];exact fun h=>U h.2.1
   rw[this]
 ·rw[ai h1]
  have:wh e w=false:=by rw[←Bool.not_eq_true,Di];exact fun h=>h1 h.1
  rw[this]
end Go.AM
set_option maxRecDepth 100000
namespace Go.AM
open Go.Proofs
noncomputable def Wf (C:ae) (qw qx:Int) (se:List V) (qy qz:Int) (sf:List V):Option (List V):=
 bif (qw:Int) != qy then
  (C yG [.int .i64 qw,.int .i64 qy]).bind fun r1=>
  some [.int .i64 ((V.nth r1 0).toInt)]
 else
  bif (qx:Int) != qz then
  (C yG [.int .i64 qx,.int .i64 qz]).bind fun r2=>
  some [.int .i64 ((V.nth r2 0).toInt)]
  else
  (C Hf [.list aa se,.list aa sf]).bind fun r3=>
  some [.int .i64 ((V.nth r3 0).toInt)]
theorem aij {qw qx:Int} {se:List V} {qy qz:Int} {sf:List V} {r:Option (List V)} (h:Wf CC qw qx se qy qz sf=r):CC bn [.int .i64 qw,.int .i64 qx,.list aa se,.int .i64 qy,.int .i64 qz,.list aa sf]=r:=
 aZ (key:=85) (L:=bX) (bs:=[]) (by kernel_rfl) aw (aX (by kernel_rfl) h)
noncomputable abbrev Wg:Code:=cj Tryz.prog (av.aQ 92)
noncomputable def wi (C:ae) (s1 s2 t11:List V) (t12 t13:Int) {β:Type} (kn:Int→Option β) (kr:((Int) ⊕ (Int × Bool))→Option β):Option β:=
 bif decide ((t13:Int)<t12) then
  (idx t11 t13).bind fun x1=>
  bif decide ((t13:Int)≥(s2.length:Int)) then
  kr (.inl 1)
  else
  (idx s2 t13).bind fun x2=>
  (C bn [.int .i64 ((x1.cell 0).toInt),.int .i64 ((x1.cell 1).toInt),.list aa ((x1.cell 2).toList),.int .i64 ((x2.cell 0).toInt),.int .i64 ((x2.cell 1).toInt),.list aa ((x2.cell 2).toList)]).bind fun r3=>
  bif (((V.nth r3 0).toInt):Int) != 0 then
   kr (.inl ((V.nth r3 0).toInt))
  else
   kn (IntKind.wrap .i64 (t13+1))
 else
  kr (.inr (t13,decide ((t13:Int)<t12)))
noncomputable def tM (C:ae) (s1 s2 t11:List V) (t12:Int):(Int)→Option ((Int) ⊕ ((Int) ⊕ (Int × Bool))):=fun t13=>wi C s1 s2 t11 t12 t13 (fun y=>some (.inl y)) (fun r=>some (.inr r))
noncomputable def Wh (C:ae):b8:=fun β n ds k=>
 bif Nat.beq n 33 then bM MG [false,false,false,false,true] [[0],[1,2,3,4,0,0]] (@wi C) ds k else
 none
abbrev aik (C:ae) (b:bZ):Prop:=b6 Tryz.prog av C (Wh C) 92 (cl Tryz.prog (av.aQ 92)) (av.sin 92).bc.length b
theorem ail (C:ae):aik C (.loop (ax [1,0,1,0,0] Wg)):=
 bP MG [false,false,false,false,true] [[0],[1,2,3,4,0,0]] (@wi C) (by kernel_rfl) (a9 (bs:=[]) (by kernel_rfl) aw) (fun ds=>by kernel_rfl) (fun i x=>by kernel_rfl) (fun i x β k=>by kernel_rfl) (fun β ds k=>by kernel_rfl)
noncomputable def Wi (C:ae) (s1 s2:List V):Option (List V):=
 (Loop (tM C s1 s2 s1 (s1.length:Int)) 0).bind (cB (fun (mZ:Int)=>
  some [.int .i64 mZ]) (un fun (iJ:Int) (mY:Bool)=>
  bif decide (((s1.length:Int):Int)<(s2.length:Int)) then
   some [.int .i64 (-1)]
  else
   some [.int .i64 0]))
theorem aim {s1 s2:List V} {r:Option (List V)} (h:Wi CC s1 s2=r):CC Hf [.list aa s1,.list aa s2]=r:=
 aZ (key:=92) (L:=Wh CC) (bs:=[.loop (ax [1,0,1,0,0] Wg)]) (by kernel_rfl) (br (ail CC) aw) (aX (by kernel_rfl) h)
noncomputable def Wj (C:ae) (x y:Int):Option (List V):=
 (C BT [.int .i64 x]).bind fun r1=>
 (C BT [.int .i64 y]).bind fun r2=>
 bif (V.nth r1 0).toBool then
  bif (V.nth r2 0).toBool then
  some [.int .i64 0]
  else
  some [.int .i64 (-1)]
 else
  bif (V.nth r2 0).toBool then
  some [.int .i64 1]
  else
  bif decide ((x:Int)<y) then
   some [.int .i64 (-1)]
  else
   bif decide ((x:Int)>y) then
   some [.int .i64 1]
   else
   some [.int .i64 0]
theorem ain {x y:Int} {r:Option (List V)} (h:Wj CC x y=r):CC yG [.int .i64 x,.int .i64 y]=r:=
 aZ (key:=91) (L:=bX) (bs:=[]) (by kernel_rfl) aw (aX (by kernel_rfl) h)
noncomputable def Wk (C:ae) (x:Int):Option (List V):=
 some [.bool ((x:Int) != x)]
theorem aio {x:Int} {r:Option (List V)} (h:Wk CC x=r):CC BT [.int .i64 x]=r:=
 aZ (key:=103) (L:=bX) (bs:=[]) (by kernel_rfl) aw (aX (by kernel_rfl) h)
end Go.AM
set_option maxRecDepth 100000
namespace Go.AM
open Go.Proofs Ex
def jq (less:Bool):Int:=if less then-1 else 1
mutual
def Ex.cmp:Ex→Ex→Int
 | .node o l ks,e=>if o≠e.op then jq (decide (o<e.op)) else if l≠e.letter then jq (decide (l<e.letter)) else eK ks e.kids
def Ex.eK:List Ex→List Ex→Int
 | [],[]=>0
 | [],_::_=> -1
 | _::_,[]=>1
 | k::ks,k'::cx=>if cmp k k'≠0 then cmp k k' else eK ks cx
end
theorem zf (o l o' l':Int) (ks cx:List Ex):cmp (.node o l ks) (.node o' l' cx)=if o≠o' then jq (decide (o<o')) else if l≠l' then jq (decide (l<l')) else eK ks cx:=by
 rw[cmp];rfl
theorem Wl (b:Bool):jq b= -1∨jq b=1:=by cases b<;>simp[jq]
theorem aip (ks:List Ex) (ih: ∀k∈ks,cmp k k=0):eK ks ks=0:=by
 induction ks with
 | nil=>simp[eK]
 | cons k ks rk=>simp[eK,ih k (by simp),rk fun k hk=>ih k (by simp[hk])]
theorem Dj: ∀e:Ex,cmp e e=0:=ind fun o l ks ih=>by
 rw[zf];simp[aip ks ih]
theorem Wm {a b:Int} (h:a≠b):jq (decide (b<a))= -jq (decide (a<b)):=by
 by_cases h1:a<b
 ·have: ¬b<a:=by omega
  simp[jq,h1,this]
 ·have:b<a:=by omega
  simp[jq,h1,this]
theorem aiq (ks:List Ex) (ih: ∀k∈ks,∀e,cmp e k= -cmp k e): ∀cx,eK cx ks= -eK ks cx:=by
 induction ks with
 | nil=>intro cx;cases cx<;>simp[eK]
 | cons k ks rk=>
  intro cx
  cases cx with
  | nil=>simp[eK]
  | cons k' cx=>
   simp only[eK,ih k (by simp) k',rk (fun k hk=>ih k (by simp[hk])) cx]
   by_cases h:cmp k k'=0
   ·simp[h]
   ·have: -cmp k k'≠0:=by omega
    simp[h,this]
theorem tN: ∀e e':Ex,cmp e' e= -cmp e e':=
 ind fun o l ks ih e'=>by
  obtain ⟨o',l',cx⟩:=e'
  rw[zf,zf]
  by_cases h1:o=o'
  ·subst h1
   by_cases U:l=l'
   ·subst U
    simp[aiq ks ih]
   ·have h2':l'≠l:=fun e=>U e.symm
    simp only[ne_eq,oF,fR,U,h2',z9,cU];exact Wm U
  ·have fJ:o'≠o:=fun e=>h1 e.symm
   simp only[ne_eq,h1,fJ,z9,cU];exact Wm h1
theorem air (ks:List Ex) (ih: ∀k∈ks,∀e,cmp k e=0→k=e): ∀cx,eK ks cx=0→ks=cx:=by
 induction ks with
 | nil=>intro cx h;cases cx<;>simp[eK] at h⊢
 | cons k ks rk=>
  intro cx h
  cases cx with
  | nil=>simp[eK] at h
  | cons k' cx=>
   simp only[eK] at h
   by_cases h1:cmp k k'=0
   ·rw[ih k (by simp) k' h1,rk (fun k hk=>ih k (by simp[hk])) cx (by simpa[h1] using h)]
   ·simp[h1] at h
theorem wj: ∀e e':Ex,cmp e e'=0→e=e':=
 ind fun o l ks ih e' h=>by
  obtain ⟨o',l',cx⟩:=e'
  rw[zf] at h
  have s1:=Wl (decide (o<o'))
  have s2:=Wl (decide (l<l'))
  by_cases h1:o=o'
  ·by_cases U:l=l'
   ·rw[h1,U,air ks ih cx (by simpa[h1,U] using h)]
   ·have bD:jq (decide (l<l'))≠0:=by omega
    rw[ai (by simp[h1]),ah U] at h
    exact absurd h bD
  ·have bD:jq (decide (o<o'))≠0:=by omega
   rw[ah h1] at h
   exact absurd h bD
theorem ais (a:List Ex) (ih: ∀k∈a,∀b c,cmp k b≤0→cmp b c≤0→cmp k c≤0): ∀b c,eK a b≤0→eK b c≤0→eK a c≤0:=by
 induction a with
 | nil=>intro b c _ _;cases c<;>simp[eK]
 | cons x a rk=>
  intro b c h1 U
  cases b with
  | nil=>simp[eK] at h1
  | cons y b=>
   cases c with
   | nil=>simp[eK] at U
   | cons z c=>
    simp only[eK] at h1 U⊢
    have GD:cmp x y≤0:=by by_cases h:cmp x y=0<;>simp[h] at h1⊢;exact h1
    have hyz:cmp y z≤0:=by by_cases h:cmp y z=0<;>simp[h] at U⊢;exact U
    have hxz:=ih x (by simp) y z GD hyz
    by_cases h:cmp x z=0
    ·have:=wj x z h
     subst this
     have h3:=tN x y
     have h4:cmp x y=0:=by omega
     have h5:cmp y x=0:=by omega
     simp only[h,ne_eq,oF,fR]
     simp only[h4,h5,ne_eq,oF,fR] at h1 U
     exact rk (fun k hk=>ih k (by simp[hk])) b c h1 U
    ·simp[h];exact hxz
theorem tO {x y:Int}:jq (decide (x<y))≤0↔x<y:=by
 by_cases h:x<y
 ·simp[jq,h]
 ·simp[jq,h]
theorem N9: ∀a b c:Ex,cmp a b≤0→cmp b c≤0→cmp a c≤0:=
 ind fun o l ks ih b c h1 U=>by
  obtain ⟨o',l',cx⟩:=b
  obtain ⟨Oa,rj,apa⟩:=c
  rw[zf] at h1 U⊢
  by_cases e1:o=o'
  ·subst e1
   by_cases e2:o=Oa
   ·subst e2
    simp only[ne_eq,oF,fR] at h1 U⊢
    by_cases e3:l=l'
    ·subst e3
     by_cases e4:l=rj
     ·subst e4
      simp only[ne_eq,oF,fR] at h1 U⊢
      exact ais ks ih _ _ h1 U
     ·simp only[ne_eq,e4,z9,cU] at U⊢
      exact U
    ·rw[ah e3,tO] at h1
     by_cases e5:l'=rj
     ·subst e5
      rw[ah e3,tO]
      exact h1
     ·rw[ah e5,tO] at U
      rw[ah (show l≠rj by omega),tO]
      omega
   ·simp only[ne_eq,e2,z9,cU] at U⊢
    exact U
  ·rw[ah e1,tO] at h1
   by_cases e5:o'=Oa
   ·subst e5
    rw[ah e1,tO]
    exact h1
   ·rw[ah e5,tO] at U
    rw[ah (show o≠Oa by omega),tO]
    omega
theorem ait (x y:Int):CC yG [.int .i64 x,.int .i64 y]=some [.int .i64 (if x<y then-1 else if y<x then 1 else 0)]:=by
 refine ain ?_
 unfold Wj
 have h: ∀z:Int,CC BT [.int .i64 z]=some [.bool false]:=fun z=>aio (by simp[Wk])
 rw[h,h]
 by_cases h1:x<y
 ·simp[h1]
 ·by_cases U:y<x
  ·simp[h1,U]
  ·simp[h1,U]
theorem Wn {x y:Int} (h:x≠y):CC yG [.int .i64 x,.int .i64 y]=some [.int .i64 (jq (decide (x<y)))]:=by
 rw[ait]
 by_cases h1:x<y
 ·simp[jq,h1]
 ·simp[jq,h1,show y<x by omega]
theorem aiu {ks cx:List Ex} (hlen:ks.length≤maxLen) (ih: ∀k∈ks,∀e:Ex,e.Ok→CC bn (bY k (bY e []))=some [.int .i64 (cmp k e)]) (dt: ∀k∈cx,Ex.Ok k):
  ∀(aH pre sg Dk:List Ex),ks=pre++aH→cx=Dk++sg→pre.length=Dk.length→
  (∃c,Loop (tM CC (ks.map enc) (cx.map enc) (ks.map enc) ((ks.map enc).length:Int)) ((pre.length:Nat):Int)=some (.inl c)∧eK aH sg=c)∨
  (∃i b,Loop (tM CC (ks.map enc) (cx.map enc) (ks.map enc) ((ks.map enc).length:Int)) ((pre.length:Nat):Int)=some (.inr (i,b))∧eK aH sg=if ks.length<cx.length then-1 else 0):=by
 intro aH
 induction aH with
 | nil=>
  intro pre sg Dk bq tP wk
  subst bq
  refine .inr ⟨((pre.length:Nat):Int),false,bj ?_,?_⟩
  ·simp only[tM,wi,dz,bw,az]
   rw[ai (by omega)]
   simp
  ·cases sg with
   | nil=>simp[eK,tP,wk]
   | cons a l=>simp[eK,tP,wk]
 | cons k aH gb=>
  intro pre sg Dk bq tP wk
  have cb:pre.length<ks.length:=by rw[bq];simp
  have:=pf
  have cC:idx (ks.map enc) (pre.length:Int)=some k.enc:=by rw[bq];exact jD _ _ _
  cases sg with
  | nil=>
   refine .inl ⟨1,bj ?_,by simp[eK]⟩
   have hl:cx.length=pre.length:=by rw[tP,wk];simp
   simp only[tM,wi,bw,az]
   rw[ah (by omega),cC]
   simp only[Option.bind_some]
   rw[ah (by omega)]
  | cons k' sg=>
   have hl:pre.length<cx.length:=by rw[tP,wk];simp
   have Wo:idx (cx.map enc) (pre.length:Int)=some k'.enc:=by rw[tP,wk];exact jD _ _ _
   have e1:=ih k (by rw[bq];simp) k' (dt k' (by rw[tP];simp))
   by_cases hc:cmp k k'=0
   ·have eG:tM CC (ks.map enc) (cx.map enc) (ks.map enc) ((ks.map enc).length:Int) ((pre.length:Nat):Int)=some (.inl (((pre++[k]).length:Nat):Int)):=by
     simp only[tM,wi,bw,az]
     rw[ah (by omega),cC]
     simp only[Option.bind_some]
     rw[ai (by omega),Wo]
     simp only[Option.bind_some,bz,bA,bB]
     rw[e1,hc]
     simp only[Option.bind_some,V.aC,V.toInt_int,jm,cU]
     rw[wrap64 (by omega) (by omega)]
     simp
    rw[bW eG]
    simp only[eK,hc,ne_eq,oF,fR]
    exact gb (pre++[k]) sg (Dk++[k']) (by rw[bq];simp) (by rw[tP];simp) (by simp[wk])
   ·refine .inl ⟨cmp k k',bj ?_,by simp[eK,hc]⟩
    simp only[tM,wi,bw,az]
    rw[ah (by omega),cC]
    simp only[Option.bind_some]
    rw[ai (by omega),Wo]
    simp only[Option.bind_some,bz,bA,bB]
    rw[e1]
    simp only[Option.bind_some,V.aC,V.toInt_int,jm,ai hc]
theorem Wp: ∀a:Ex,a.Ok→∀b:Ex,b.Ok→CC bn (bY a (bY b []))=some [.int .i64 (cmp a b)]:=
 ind fun o l ks ih ay b hb=>by
  obtain ⟨o',l',cx⟩:=b
  refine aij ?_
  unfold Wf
  rw[zf]
  simp only[Ex.op,Ex.letter,Ex.kids,jm]
  by_cases h1:o=o'
  ·by_cases U:l=l'
   ·rw[ah h1,ah U,ai (by simp[h1]),ai (by simp[U])]
    have hcf:CC Hf [.list aa (ks.map enc),.list aa (cx.map enc)]=some [.int .i64 (eK ks cx)]:=by
     refine aim ?_
     unfold Wi
     rcases aiu ay.len (fun k hk e he=>ih k hk (ay.oa k hk) e he) hb.oa ks [] cx [] rfl rfl rfl with ⟨c,q1,q2⟩|⟨i,b,q1,q2⟩
     ·simp only[List.length_nil,Int.ofNat_zero,Int.natCast_zero] at q1
      erw [q1];rw[q2];rfl
     ·simp only[List.length_nil,Int.ofNat_zero,Int.natCast_zero] at q1
      erw [q1];rw[q2]
      simp only[Option.bind_some,cB,un,bw,az]
      by_cases hl:ks.length<cx.length
      ·rw[ah (by omega),ah hl]
      ·rw[ai (by omega),ai hl]
    rw[hcf]
    simp
   ·rw[ah h1,ai U,ai (by simp[h1]),ah U,Wn U]
    simp
  ·rw[ai h1,ah h1,Wn h1]
   simp
def bp:Ex:= .node 0 0 []
def iN (l:List Ex) (x:Ex):Nat→Nat
 | 0=>0
 | k+1=>if cmp x (l.getD k bp)<0 then iN l x k else k+1
def gg (l:List Ex) (x:Ex):List Ex:=
 let k:=iN l x l.length
 if 0<k∧cmp (l.getD (k-1) bp) x=0 then l else l.take k++x::l.drop k
theorem Ob (l:List Ex) (x:Ex): ∀k,iN l x k≤k
 | 0=>bU _
 | k+1=>by
  unfold iN;split
  ·exact Nat.le_succ_of_le (Ob l x k)
  ·exact bU _
theorem Ic {l:List Ex} (h: ∀k∈l,k.Ok) {i:Nat} (hi:i<l.length):(l.getD i bp).Ok:=by
 have e:l.getD i bp=l[i]:=by simp[hi]
 rw[e];exact h _ (List.getElem_mem hi)
def bH (op:Int) (l:List Ex):List Ex:=l.flatMap fun k=>if k.op=op then k.kids else [k]
def univ (e:Ex):Bool:=decide (e.op=8∧e.kids.length=1∧(e.kids.getD 0 bp).op=1)
theorem aiv {a b:Ex}:cmp a b=0↔a=b:=⟨wj a b,fun h=>by rw[h];exact Dj b⟩
instance:DecidableEq Ex:=fun _ _=>decidable_of_iff _ aiv
end Go.AM
set_option maxRecDepth 100000
namespace Go.AM
open Go.Proofs
noncomputable abbrev Wq:Code:=cj Tryz.prog (av.aQ 76)
noncomputable def Dl (C:ae) (op:Int) (t8:List V) (t9 t10:Int) (gL:List V) {β:Type} (kn:(Int × (List V))→Option β) (kr:(Int × Bool × (List V))→Option β):Option β:=
 bif decide ((t10:Int)<t9) then
  (idx t8 t10).bind fun x1=>
  bif (((x1.cell 0).toInt):Int)==op then
  bif Nat.ble ((gL.length+((x1.cell 2).toList).length)*40) cJ then
   kn (IntKind.wrap .i64 (t10+1),gL++((x1.cell 2).toList))
  else none
  else
  bif Nat.ble ((gL.length+([.agg [.int .i64 ((x1.cell 0).toInt),.int .i64 ((x1.cell 1).toInt),.list aa ((x1.cell 2).toList)]]:List V).length)*40) cJ then
   kn (IntKind.wrap .i64 (t10+1),gL++([.agg [.int .i64 ((x1.cell 0).toInt),.int .i64 ((x1.cell 1).toInt),.list aa ((x1.cell 2).toList)]]:List V))
  else none
 else
  kr (t10,decide ((t10:Int)<t9),gL)
noncomputable def Dm (C:ae) (op:Int) (t8:List V) (t9:Int):(Int × (List V))→Option ((Int × (List V)) ⊕ (Int × Bool × (List V))):=un fun t10 gL=>Dl C op t8 t9 t10 gL (fun y=>some (.inl y)) (fun r=>some (.inr r))
noncomputable def Wr (C:ae):b8:=fun β n ds k=>
 bif Nat.beq n 49 then bM Mz [false,false,false,true,true] [[1,2,3,0,0,0]] (@Dl C) ds k else
 none
abbrev aiw (C:ae) (b:bZ):Prop:=b6 Tryz.prog av C (Wr C) 76 (cl Tryz.prog (av.aQ 76)) (av.sin 76).bc.length b
theorem aix (C:ae):aiw C (.loop (ax [1,1,0,1,0,0] Wq)):=
 bP Mz [false,false,false,true,true] [[1,2,3,0,0,0]] (@Dl C) (by kernel_rfl) (a9 (bs:=[]) (by kernel_rfl) aw) (fun ds=>by kernel_rfl) (fun i x=>by kernel_rfl) (fun i x β k=>by kernel_rfl) (fun β ds k=>by kernel_rfl)
noncomputable def Ws (C:ae) (op:Int) (kids:List V):Option (List V):=
 (Loop (Dm C op kids (kids.length:Int)) (0,([]:List V))).bind (un fun (t_2:Int)=>un fun (kL:Bool) (aiy:List V)=>
  some [.list aa aiy])
theorem aiz {op:Int} {kids:List V} {r:Option (List V)} (h:Ws CC op kids=r):CC yF [.int .i64 op,.list aa kids]=r:=
 aZ (key:=76) (L:=Wr CC) (bs:=[.loop (ax [1,1,0,1,0,0] Wq)]) (by kernel_rfl) (br (aix CC) aw) (aX (by kernel_rfl) h)
noncomputable def Wt (C:ae) (op:Int) (parts:List V) (Ie Ig:Int) (Ih:List V):Option (List V):=
 bif ((parts.length:Int):Int)==0 then
  some [.int .i64 Ie,.int .i64 Ig,.list aa Ih]
 else
  bif ((parts.length:Int):Int)==1 then
  (parts[0]?).bind fun x1=>
  some [.int .i64 ((x1.cell 0).toInt),.int .i64 ((x1.cell 1).toInt),.list aa ((x1.cell 2).toList)]
  else
  some [.int .i64 op,.int .i64 0,.list aa parts]
theorem aiA {op:Int} {parts:List V} {Ie Ig:Int} {Ih:List V} {r:Option (List V)} (h:Wt CC op parts Ie Ig Ih=r):CC mU [.int .i64 op,.list aa parts,.int .i64 Ie,.int .i64 Ig,.list aa Ih]=r:=
 aZ (key:=77) (L:=bX) (bs:=[]) (by kernel_rfl) aw (aX (by kernel_rfl) h)
noncomputable def aiB (C:ae):Option (List V):=
 some [.int .i64 1,.int .i64 0,.list aa ([]:List V)]
theorem aiC {r:Option (List V)} (h:aiB CC=r):CC ql []=r:=
 aZ (key:=79) (L:=bX) (bs:=[]) (by kernel_rfl) aw (aX (by kernel_rfl) h)
noncomputable def aiD (C:ae):Option (List V):=
 some [.int .i64 2,.int .i64 0,.list aa ([]:List V)]
theorem aiE {r:Option (List V)} (h:aiD CC=r):CC vB []=r:=
 aZ (key:=68) (L:=bX) (bs:=[]) (by kernel_rfl) aw (aX (by kernel_rfl) h)
noncomputable def Wu (C:ae):Option (List V):=
 (C ql []).bind fun r1=>
 some [.int .i64 8,.int .i64 0,.list aa ([.agg [.int .i64 ((V.nth r1 0).toInt),.int .i64 ((V.nth (r1.drop 1) 0).toInt),.list aa ((V.nth (r1.drop 2) 0).toList)]]:List V)]
theorem aiF {r:Option (List V)} (h:Wu CC=r):CC tp []=r:=
 aZ (key:=74) (L:=bX) (bs:=[]) (by kernel_rfl) aw (aX (by kernel_rfl) h)
end Go.AM
set_option maxRecDepth 100000
namespace Go.AM
open Go.Proofs Ex
theorem aiG {op:Int} {ks:List Ex} (hn:ks.length≤1000000) (hl:(bH op ks).length≤1000000):
  ∀(aH pre:List Ex),ks=pre++aH→
  Loop (Dm CC op (ks.map enc) ((ks.map enc).length:Int)) (((pre.length:Nat):Int),(bH op pre).map enc)=some (((ks.map enc).length:Int),false,(bH op ks).map enc):=by
 intro aH
 induction aH with
 | nil=>
  intro pre e
  rw[dz] at e
  subst e
  refine bj ?_
  simp only[Dm,Dl,un,bw]
  rw[az,ai (by omega),ct (by omega)]
 | cons k aH ih=>
  intro pre e
  have aT:pre.length<ks.length:=by rw[e];simp
  have hi:idx (ks.map enc) ((pre.length:Nat):Int)=some k.enc:=by rw[e];exact jD pre aH k
  have hf:bH op ks=bH op pre++((if k.op=op then k.kids else [k])++bH op aH):=by
   rw[e];unfold bH;rw[List.flatMap_append,mz]
  have KH:bH op (pre++[k])=bH op pre++(if k.op=op then k.kids else [k]):=by
   unfold bH;rw[List.flatMap_append,mz,List.flatMap_nil,dz]
  rw[hf,cz,cz] at hl
  have bG:Dm CC op (ks.map enc) ((ks.map enc).length:Int) (((pre.length:Nat):Int),(bH op pre).map enc)=some (.inl (((pre.length+1:Nat):Int),(bH op (pre++[k])).map enc)):=by
   simp only[Dm,Dl,un,bw]
   rw[az,ah (by omega),hi,KH]
   simp only[Option.bind_some,bz,bA,bB,dC,yi,bw,List.length_singleton]
   by_cases h:k.op=op
   ·rw[ah h] at hl⊢
    rw[ah h,ah (by rw[n0];omega),wrap64 (by omega) (by omega),gm]
    rfl
   ·rw[ai h] at hl⊢
    rw[List.length_singleton] at hl
    rw[ai h,ah (by rw[n0];omega),wrap64 (by omega) (by omega),gm,←eY]
    rfl
  rw[bW bG]
  have:=ih (pre++[k]) (by simp[e])
  simpa using this
theorem Oc {op:Int} {ks:List Ex} (hn:ks.length≤1000000) (hl:(bH op ks).length≤1000000):CC yF [.int .i64 op,.list aa (ks.map enc)]=some [.list aa ((bH op ks).map enc)]:=by
 refine aiz ?_
 unfold Ws
 refine (congrArg (fun o=>Option.bind o _) (aiG hn hl ks [] rfl)).trans ?_
 rfl
def iO (e:Ex):List V:=[.int .i64 e.op,.int .i64 e.letter,.list aa (e.kids.map enc)]
def fA (op:Int) (l:List Ex) (nP:Ex):Ex:=
 match l with
 | []=>nP
 | [k]=>k
 | l=> .node op 0 l
theorem qA {op:Int} {l:List Ex} {z:Ex}:CC mU (.int .i64 op:: .list aa (l.map enc)::iO z)=some (iO (fA op l z)):=by
 refine aiA ?_
 unfold Wt
 simp only[dC,bw]
 match l with
 | []=>simp[fA,iO]
 | [k]=>simp[fA,iO,bz,bA,bB]
 | k::k2::l=>
  rw[ai (by simp only[List.length_cons];omega),ai (by simp only[List.length_cons];omega)]
  rfl
end Go.AM
set_option maxRecDepth 100000
set_option maxHeartbeats 1000000
namespace Go.AM
open Go.Proofs Ex
def Ex.lx (a b:Ex):Prop:=cmp a b<0
noncomputable instance (a b:Ex):Decidable (a.lx b):=by unfold Ex.lx;infer_instance
theorem Ex.Wv (a:Ex): ¬a.lx a:=by unfold Ex.lx;rw[Dj];omega
theorem Ex.Od {a b c:Ex} (h1:a.lx b) (U:b.lx c):a.lx c:=by
 unfold Ex.lx at*
 have h3:=N9 a b c (by omega) (by omega)
 refine Decidable.byContradiction fun h=> ?_
 have h0:cmp a c=0:=by omega
 have:=wj a c h0
 subst this
 have:=tN a b
 omega
theorem Ex.aiH {a b:Ex}:a.lx b→¬b.lx a:=by
 unfold Ex.lx
 have:=tN a b
 omega
theorem Ex.Ww {a b:Ex} (h1: ¬a.lx b) (U: ¬b.lx a):a=b:=by
 unfold Ex.lx at*
 have:=tN a b
 exact wj a b (by omega)
abbrev j4 (E:List Ex):Prop:=E.Pairwise Ex.lx
theorem Oe: ∀{A B:List Ex},j4 A→j4 B→(∀x,x∈A↔x∈B)→A=B
 | [],[],_,_,_=>rfl
 | [],b::B,_,_,h=>by have:=(h b).2 (by simp);cases this
 | a::A,[],_,_,h=>by have:=(h a).1 (by simp);cases this
 | a::A,b::B,hA,hB,h=>by
  have a1:=uq.1 hA
  have b1:=uq.1 hB
  have fq:a=b:=by
   have ha:=(h a).1 (by simp)
   have hb:=(h b).2 (by simp)
   rcases dp.1 ha with e|e
   ·exact e
   ·rcases dp.1 hb with e'|e'
    ·exact e'.symm
    ·exact absurd (a1.1 b e') (Ex.aiH (b1.1 a e))
  subst fq
  rw[Oe a1.2 b1.2 fun x=> ?_]
  constructor
  ·intro hx
   rcases dp.1 ((h x).1 (by simp[hx])) with e|e
   ·subst e;exact absurd (a1.1 x hx) (Ex.Wv x)
   ·exact e
  ·intro hx
   rcases dp.1 ((h x).2 (by simp[hx])) with e|e
   ·subst e;exact absurd (b1.1 x hx) (Ex.Wv x)
   ·exact e
open Classical in
noncomputable def zg (out:List Ex) (e:Ex):List Ex:=
 if iN out e out.length=0∨¬out.getD (iN out e out.length-1) bp=e then out.take (iN out e out.length)++[e]++out.drop (iN out e out.length) else out
theorem Wx (out:List Ex) (e:Ex): ∀k i,iN out e k≤i→i<k→e.lx (out.getD i bp)
 | 0,i,_,h=>by omega
 | k+1,i,h1,U=>by
  unfold iN at h1
  split at h1
  ·rename_i h3
   by_cases hi:i=k
   ·subst hi;exact h3
   ·exact Wx out e k i h1 (by omega)
  ·omega
theorem Wy (out:List Ex) (e:Ex): ∀k,iN out e k≠0→¬e.lx (out.getD (iN out e k-1) bp)
 | 0,h=>by simp[iN] at h
 | k+1,h=>by
  unfold iN at h⊢
  split
  ·rename_i h3
   rw[ah h3] at h
   exact Wy out e k h
  ·rename_i h3
   exact h3
theorem aiI {out:List Ex} {e x:Ex} (hk:iN out e out.length≤out.length):x∈zg out e↔x=e∨x∈out:=by
 unfold zg
 split
 ·rename_i h
  have:=EK (iN out e out.length) out
  constructor
  ·intro hx
   simp only[cv,eM,ez] at hx
   rcases hx with hx|hx|hx
   ·exact .inr (List.mem_of_mem_take hx)
   ·exact .inl hx
   ·exact .inr (List.mem_of_mem_drop hx)
  ·rintro (rfl|hx)
   ·simp
   ·rw[←this] at hx
    simp only[eM] at hx
    simp only[cv,eM,ez]
    rcases hx with hx|hx
    ·exact .inl hx
    ·exact .inr (.inr hx)
 ·rename_i h
  simp only[not_or,ER] at h
  constructor
  ·exact .inr
  ·rintro (rfl|hx)
   ·have h1:=h.2
    have U:iN out x out.length-1<out.length:=by omega
    rw[←h1]
    simp[U]
   ·exact hx
theorem aiJ {out:List Ex} {e:Ex} (h:j4 out):j4 (zg out e):=by
 have hk:=Ob out e out.length
 have up:=Wx out e out.length
 have dn:=Wy out e out.length
 unfold zg
 generalize hq:iN out e out.length=k at*
 split
 ·rename_i hc
  have g:=EL.1 h
  have jf: ∀x∈out.take k,x.lx e:=by
   intro x hx
   obtain ⟨i,hi,rfl⟩:=List.getElem_of_mem hx
   have ee:i<k:=by rw[fS] at hi;omega
   have rG:i<out.length:=by omega
   rw[List.getElem_take]
   have mh:k≠0:=by omega
   have h1:=dn mh
   have U: ¬out.getD (k-1) bp=e:=by
    rcases hc with hc|hc
    ·exact absurd hc mh
    ·exact hc
   have iG:k-1<out.length:=by omega
   have e1:out.getD (k-1) bp=out[k-1]:=by simp[iG]
   rw[e1] at h1 U
   have h3:out[k-1].lx e:=by
    by_cases h4:out[k-1].lx e
    ·exact h4
    ·exact absurd (Ex.Ww h4 h1) U
   by_cases hik:i=k-1
   ·subst hik;exact h3
   ·exact Ex.Od (g i (k-1) rG iG (by omega)) h3
  have hX: ∀y∈out.drop k,e.lx y:=by
   intro y hy
   obtain ⟨i,hi,rfl⟩:=List.getElem_of_mem hy
   rw[um] at hi
   rw[List.getElem_drop]
   have:=up (k+i) (by omega) (by omega)
   have e1:out.getD (k+i) bp=out[k+i]:=by simp[show k+i<out.length by omega]
   rwa [e1] at this
  rw[j4,cv,List.pairwise_append]
  refine ⟨h.sublist (List.take_sublist _ _),?_,?_⟩
  ·rw[List.singleton_append,uq]
   exact ⟨hX,h.sublist (List.drop_sublist _ _)⟩
  ·intro x hx y hy
   rw[List.singleton_append,dp] at hy
   rcases hy with rfl|hy
   ·exact jf x hx
   ·exact Ex.Od (jf x hx) (hX y hy)
 ·exact h
theorem Wz (out:List Ex) (e:Ex):gg out e=zg out e:=by
 unfold gg zg
 generalize iN out e out.length=k
 by_cases h:k=0∨¬out.getD (k-1) bp=e
 ·rw[ah h,ai (fun U=>by
   rcases h with h|h
   ·omega
   ·exact h (wj _ _ U.2))]
  simp
 ·rw[ai h,ah]
  simp only[not_or,ER] at h
  exact ⟨by omega,by rw[h.2];exact Dj e⟩
end Go.AM
set_option maxRecDepth 100000
namespace Go.AM
open Go.Proofs Ex
def dZ:Ex:= .node 1 0 []
def jr:Ex:= .node 2 0 []
def gM:Ex:= .node 8 0 [dZ]
def dJ (o l:Int) (ks:List Ex):Ex:=
 if o=8 then (let k:=ks.getD 0 bp;if k.op=8 then k.kids.getD 0 bp else .node o l ks)
 else if o=7 then (let k:=ks.getD 0 bp;if k.op=1∨k.op=2 then jr else if k.op=7∨univ k=true then k else .node o l ks)
 else if o=5 then (let f:=bH 5 ks;if f.any (fun k=>decide (k.op=1)) then dZ else fA 5 (f.filter fun k=>decide (k.op≠2)) jr)
 else if o=4 then (let f:=bH 4 ks;if f.any univ then gM else fA 4 ((f.filter fun k=>decide (k.op≠1)).foldl gg []) dZ)
 else if o=6 then (let f:=bH 6 ks;if f.any (fun k=>decide (k.op=1)) then dZ else fA 6 ((f.filter fun k=> !(univ k)).foldl gg []) gM)
 else .node o l ks
mutual
def aV:Ex→Ex
 | .node o l ks=>dJ o l (Dn ks)
def Dn:List Ex→List Ex
 | []=>[]
 | k::ks=>aV k::Dn ks
end
theorem WA: ∀ks,Dn ks=ks.map aV
 | []=>by simp only[Dn,fl]
 | k::ks=>by simp only[Dn,cr,WA ks]
theorem aiK {out:List Ex} {e:Ex} (h:j4 out):j4 (gg out e):=by rw[Wz];exact aiJ h
theorem aiL {out:List Ex} {e x:Ex}:x∈gg out e↔x=e∨x∈out:=by rw[Wz];exact aiI (Ob _ _ _)
theorem Ii: ∀(l out:List Ex),j4 out→j4 (l.foldl gg out)∧∀x,x∈l.foldl gg out↔x∈l∨x∈out
 | [],out,h=>⟨h,by simp⟩
 | e::l,out,h=>by
  obtain ⟨h1,U⟩:=Ii l (gg out e) (aiK h)
  refine ⟨h1,fun x=> ?_⟩
  rw[List.foldl_cons,U,aiL]
  simp only[dp]
  constructor
  ·rintro (h|h|h)
   ·exact .inl (.inr h)
   ·exact .inl (.inl h)
   ·exact .inr h
  ·rintro ((h|h)|h)
   ·exact .inr (.inl h)
   ·exact .inl h
   ·exact .inr (.inr h)
def sh (o:Int) (ks:List Ex):Prop:=
 (o=8→∀k∈ks,k.op≠8)∧
 (o=7→∀k∈ks,k.op≠1∧k.op≠2∧k.op≠7∧univ k=false)∧
 (o=5→∀k∈ks,k.op≠5∧k.op≠1∧k.op≠2)∧
 (o=4→j4 ks∧∀k∈ks,k.op≠4∧k.op≠1∧univ k=false)∧
 (o=6→j4 ks∧∀k∈ks,k.op≠6∧k.op≠1∧univ k=false)
inductive Nm:Ex→Prop
 | node {o l:Int} {ks:List Ex}:(∀k∈ks,Nm k)→sh o ks→Nm (.node o l ks)
theorem Nm.oa {o l:Int} {ks:List Ex} (h:Nm (.node o l ks)): ∀k∈ks,Nm k:=by cases h;assumption
theorem Nm.ok {o l:Int} {ks:List Ex} (h:Nm (.node o l ks)):sh o ks:=by cases h;assumption
def Gd (n:Int) (e:Ex):Prop:=Nm e∧e.wf n=true
theorem wm {n o l:Int} {ks:List Ex} (h:dx o l ks.length n=true) (hk: ∀k∈ks,k.wf n=true):(Ex.node o l ks).wf n=true:=by
 have: ∀ks:List Ex,(∀k∈ks,k.wf n=true)→ib n ks=true:=by
  intro ks
  induction ks with
  | nil=>intro _;simp only[ib]
  | cons k ks ih=>intro h;simp only[ib,h k (by simp),ih fun k hk=>h k (by simp[hk]),ka]
 simp only[Ex.wf,h,this ks hk,ka]
theorem eH {o l len n:Int} (h:dx o l len n=true):(o=3∧len=0∧0≤l∧l<n)∨(l=0∧((o=1∧len=0)∨(o=2∧len=0)∨(o=4∧2≤len)∨(o=5∧2≤len)∨(o=6∧2≤len)∨(o=7∧len=1)∨(o=8∧len=1))):=by
 unfold dx at h
 split at h
 ·rename_i h3
  have:=gP h
  omega
 ·rw[aN] at h
  have h1:=gP h.1
  have U:=h.2
  split at U
  ·have:=gP U;omega
  ·split at U
   ·have:=gP U;omega
   ·have:=gP U;omega
theorem Gd.kids {n:Int} {e:Ex} (h:Gd n e): ∀k∈e.kids,Gd n k:=by
 obtain ⟨o,l,ks⟩:=e
 exact fun k hk=>⟨h.1.oa k hk,(gf h.2).2 k hk⟩
theorem Gd.ok {n:Int} {e:Ex} (h:Gd n e):sh e.op e.kids:=by
 obtain ⟨o,l,ks⟩:=e
 exact h.1.ok
theorem Gd.shape {n:Int} {e:Ex} (h:Gd n e):dx e.op e.letter e.kids.length n=true:=by
 obtain ⟨o,l,ks⟩:=e
 exact (gf h.2).1
theorem Gd.mk' {n o l:Int} {ks:List Ex} (h1: ∀k∈ks,Gd n k) (U:sh o ks) (h3:dx o l ks.length n=true):Gd n (.node o l ks):=
 ⟨.node (fun k hk=>(h1 k hk).1) U,wm h3 fun k hk=>(h1 k hk).2⟩
theorem Ij {n:Int}:Gd n dZ:= .mk' (by simp) ⟨by simp,by simp,by simp,by simp,by simp⟩ (by simp[dx])
theorem WB {n:Int}:Gd n jr:= .mk' (by simp) ⟨by simp,by simp,by simp,by simp,by simp⟩ (by simp[dx])
theorem WC {n:Int}:Gd n gM:= .mk' (by simp[Ij]) ⟨by simp[dZ,Ex.op],by simp,by simp,by simp,by simp⟩ (by simp[dx])
theorem Ik {n:Int} {e:Ex} (h:Gd n e) (hu:univ e=true):e=gM:=by
 obtain ⟨o,l,ks⟩:=e
 have hs:=eH h.shape
 have hu:=gP hu
 simp only[Ex.op,Ex.kids,Ex.letter] at*
 match ks,hu with
 | [k],hu=>
  obtain ⟨o2,l2,mn⟩:=k
  have l8:=eH (h.kids _ (ez.2 rfl)).shape
  simp only[Ex.op,Ex.kids,Ex.letter,Ak] at*
  obtain rfl:mn=[]:=qR.1 (by omega)
  unfold gM dZ
  rw[show o=8 by omega,show l=0 by omega,show o2=1 by omega,show l2=0 by omega]
theorem empty_eq {n:Int} {e:Ex} (h:Gd n e) (ho:e.op=1):e=dZ:=by
 obtain ⟨o,l,ks⟩:=e
 have hs:=eH h.shape
 simp only[Ex.op,Ex.kids,Ex.letter] at*
 obtain rfl:ks=[]:=qR.1 (by omega)
 unfold dZ
 rw[show o=1 by omega,show l=0 by omega]
theorem unit_eq {n:Int} {e:Ex} (h:Gd n e) (ho:e.op=2):e=jr:=by
 obtain ⟨o,l,ks⟩:=e
 have hs:=eH h.shape
 simp only[Ex.op,Ex.kids,Ex.letter] at*
 obtain rfl:ks=[]:=qR.1 (by omega)
 unfold jr
 rw[show o=2 by omega,show l=0 by omega]
theorem Il (a b:List Ex):aR (a++b)=aR a+aR b:=by
 induction a with
 | nil=>simp[aR]
 | cons k a ih=>simp only[List.cons_append,aR,ih];omega
theorem Of (p:Ex→Bool) (l:List Ex):aR (l.filter p)≤aR l:=by
 induction l with
 | nil=>simp[aR]
 | cons k l ih=>
  rw[pI]
  split
  ·simp only[aR];omega
  ·simp only[aR];omega
theorem qB (l:List Ex):l.length≤aR l:=by
 induction l with
 | nil=>simp[aR]
 | cons k l ih=>simp only[aR,List.length_cons];have:=k.size_pos;omega
theorem zh (o:Int) (l:List Ex):aR (bH o l)≤aR l:=by
 induction l with
 | nil=>simp[aR,bH]
 | cons k l ih=>
  have e:bH o (k::l)=(if k.op=o then k.kids else [k])++bH o l:=by simp[bH]
  rw[e,Il]
  simp only[aR]
  split
  ·obtain ⟨o2,l2,ks⟩:=k
   simp only[Ex.kids,size] at*;omega
  ·simp only[aR];omega
theorem aiM (l:List Ex) (x:Ex):aR (gg l x)≤aR l+x.size:=by
 unfold gg
 simp only
 split
 ·omega
 ·have:=congrArg aR (EK (iN l x l.length) l)
  rw[Il] at this
  rw[Il]
  simp only[aR]
  omega
theorem Og: ∀(l acc:List Ex),aR (l.foldl gg acc)≤aR acc+aR l
 | [],acc=>by simp[aR]
 | k::l,acc=>by
  rw[List.foldl_cons]
  have h1:=Og l (gg acc k)
  have U:=aiM acc k
  simp only[aR]
  omega
theorem si {l:List Ex} {d:Nat}:cR l≤d↔∀k∈l,k.depth≤d:=by
 induction l with
 | nil=>simp[cR]
 | cons k l ih=>simp only[cR,Nat.max_le,ih,dp,forall_eq_or_imp]
theorem WD {ks:List Ex} {k:Ex} (h:k∈ks):k.depth≤cR ks:=si.1 (bU _) k h
theorem jE {o:Int} {l:List Ex} {x:Ex}:x∈bH o l↔∃k∈l,(k.op=o∧x∈k.kids)∨(k.op≠o∧x=k):=by
 unfold bH
 rw[List.mem_flatMap]
 constructor
 ·rintro ⟨k,hk,hx⟩
  refine ⟨k,hk,?_⟩
  by_cases h:k.op=o
  ·rw[ah h] at hx;exact .inl ⟨h,hx⟩
  ·rw[ai h] at hx;exact .inr ⟨h,by simpa using hx⟩
 ·rintro ⟨k,hk,h|h⟩
  ·exact ⟨k,hk,by rw[ah h.1];exact h.2⟩
  ·exact ⟨k,hk,by rw[ai h.1];simp[h.2]⟩
theorem Oh {o:Int} {l:List Ex} {d:Nat} (h:cR l≤d):cR (bH o l)≤d:=by
 rw[si] at*
 intro x hx
 obtain ⟨k,hk,h1|h1⟩:=jE.1 hx
 ·have:=h k hk
  have U:=WD h1.2
  obtain ⟨o2,l2,ks⟩:=k
  simp only[Ex.kids,depth] at*
  omega
 ·rw[h1.2];exact h k hk
theorem Oi {o:Int} {l:List Ex} {z:Ex} {m:Nat} (h:1+aR l≤m) (hz:z.size≤m):(fA o l z).size≤m:=by
 match l,h with
 | [],_=>exact hz
 | [k],h=>simp only[fA,aR] at*;omega
 | k::k2::l,h=>simp only[fA,size];omega
theorem Oj {o:Int} {l:List Ex} {z:Ex} {m:Nat} (h:1+cR l≤m) (hz:z.depth≤m):(fA o l z).depth≤m:=by
 match l,h with
 | [],_=>exact hz
 | [k],h=>simp only[fA,cR] at*;omega
 | k::k2::l,h=>simp only[fA,depth];omega
theorem Ol {n o:Int} {l:List Ex} {z:Ex} (hz:Gd n z) (hl: ∀k∈l,Gd n k) (hn:sh o l) (ho:4≤o∧o≤6):Gd n (fA o l z):=by
 match l,hl,hn with
 | [],_,_=>exact hz
 | [k],h,_=>exact h k (by simp)
 | k::k2::l,h,hn=>
  refine .mk' h hn ?_
  unfold dx
  rw[ai (by omega),ai (by omega),ai (by omega)]
  simp only[List.length_cons,oG,ka]
  exact eC (by omega)
section
variable {n:Int} {ks:List Ex} (hk: ∀k∈ks,Gd n k)
include hk
theorem Dp (o:Int): ∀k∈bH o ks,Gd n k:=fun x hx=>by
 obtain ⟨k,h,h1|h1⟩:=jE.1 hx
 ·exact (hk k h).kids x h1.2
 ·rw[h1.2];exact hk k h
theorem aiN: ∀k∈bH 5 ks,k.op≠5:=fun x hx=>by
 obtain ⟨k,h,h1|h1⟩:=jE.1 hx
 ·exact ((hk k h).ok.2.2.1 h1.1 x h1.2).1
 ·rw[h1.2];exact h1.1
theorem aiO: ∀k∈bH 4 ks,k.op≠4:=fun x hx=>by
 obtain ⟨k,h,h1|h1⟩:=jE.1 hx
 ·exact (((hk k h).ok.2.2.2.1 h1.1).2 x h1.2).1
 ·rw[h1.2];exact h1.1
theorem aiP: ∀k∈bH 6 ks,k.op≠6:=fun x hx=>by
 obtain ⟨k,h,h1|h1⟩:=jE.1 hx
 ·exact (((hk k h).ok.2.2.2.2 h1.1).2 x h1.2).1
 ·rw[h1.2];exact h1.1
theorem Om:(bH 5 ks).any (fun k=>decide (k.op=1))=ks.any fun k=>decide (k.op=1):=by
 rw[nu,kf,kf]
 simp only[dW]
 constructor
 ·rintro ⟨x,hx,h⟩
  obtain ⟨k,U,h1|h1⟩:=jE.1 hx
  ·exact absurd h ((hk k U).ok.2.2.1 h1.1 x h1.2).2.1
  ·exact ⟨k,U,h1.2▸h⟩
 ·rintro ⟨k,h1,h⟩
  exact ⟨k,jE.2 ⟨k,h1,.inr ⟨by omega,rfl⟩⟩,h⟩
theorem aiQ:(bH 6 ks).any (fun k=>decide (k.op=1))=ks.any fun k=>decide (k.op=1):=by
 rw[nu,kf,kf]
 simp only[dW]
 constructor
 ·rintro ⟨x,hx,h⟩
  obtain ⟨k,U,h1|h1⟩:=jE.1 hx
  ·exact absurd h (((hk k U).ok.2.2.2.2 h1.1).2 x h1.2).2.1
  ·exact ⟨k,U,h1.2▸h⟩
 ·rintro ⟨k,h1,h⟩
  exact ⟨k,jE.2 ⟨k,h1,.inr ⟨by omega,rfl⟩⟩,h⟩
theorem WE:(bH 4 ks).any univ=ks.any univ:=by
 rw[nu,kf,kf]
 constructor
 ·rintro ⟨x,hx,h⟩
  obtain ⟨k,U,h1|h1⟩:=jE.1 hx
  ·rw[(((hk k U).ok.2.2.2.1 h1.1).2 x h1.2).2.2] at h;cases h
  ·exact ⟨k,U,h1.2▸h⟩
 ·rintro ⟨k,h1,h⟩
  have:=gP h
  exact ⟨k,jE.2 ⟨k,h1,.inr ⟨by omega,rfl⟩⟩,h⟩
end
theorem tQ {l:Int} {ks:List Ex}:dJ 5 l ks=if (bH 5 ks).any (fun k=>decide (k.op=1)) then dZ else fA 5 ((bH 5 ks).filter fun k=>decide (k.op≠2)) jr:=by
 unfold dJ;rw[ai (by omega),ai (by omega),ah rfl]
theorem wo {l:Int} {ks:List Ex}:dJ 4 l ks=if (bH 4 ks).any univ then gM else fA 4 (((bH 4 ks).filter fun k=>decide (k.op≠1)).foldl gg []) dZ:=by
 unfold dJ;rw[ai (by omega),ai (by omega),ai (by omega),ah rfl]
theorem zi {l:Int} {ks:List Ex}:dJ 6 l ks=if (bH 6 ks).any (fun k=>decide (k.op=1)) then dZ else fA 6 (((bH 6 ks).filter fun k=> !(univ k)).foldl gg []) gM:=by
 unfold dJ;rw[ai (by omega),ai (by omega),ai (by omega),ai (by omega),ah rfl]
theorem zj {l:Int} {k:Ex}:dJ 7 l [k]=if k.op=1∨k.op=2 then jr else if k.op=7∨univ k=true then k else .node 7 l [k]:=by
 unfold dJ;rw[ai (by omega),ah rfl];rfl
theorem zk {l:Int} {k:Ex}:dJ 8 l [k]=if k.op=8 then k.kids.getD 0 bp else .node 8 l [k]:=by
 unfold dJ;rw[ah rfl];rfl
theorem j5 {o l:Int} (h:o=1∨o=2∨o=3) {ks:List Ex}:dJ o l ks= .node o l ks:=by
 unfold dJ;rw[ai (by omega),ai (by omega),ai (by omega),ai (by omega),ai (by omega)]
theorem WG {n:Int} {l:List Ex} (h: ∀k∈l,Gd n k): ∀k∈l.foldl gg [],Gd n k:=fun k hk=>by
 rcases ((Ii l [] .nil).2 k).1 hk with h1|h1
 ·exact h k h1
 ·cases h1
theorem qC {l:List Ex} {x:Ex}:x∈l.foldl gg []↔x∈l:=by
 rw[(Ii l [] .nil).2 x];simp
theorem Im {l:List Ex}:j4 (l.foldl gg []):=(Ii l [] .nil).1
theorem aiR {l:List Ex} (h: ∀k∈l,k.op≠5∧k.op≠1∧k.op≠2):sh 5 l:=⟨by simp,by simp,fun _=>h,by simp,by simp⟩
theorem aiS {l:List Ex} (h:j4 l∧∀k∈l,k.op≠4∧k.op≠1∧univ k=false):sh 4 l:=⟨by simp,by simp,by simp,fun _=>h,by simp⟩
theorem aiT {l:List Ex} (h:j4 l∧∀k∈l,k.op≠6∧k.op≠1∧univ k=false):sh 6 l:=⟨by simp,by simp,by simp,by simp,fun _=>h⟩
theorem any_false {α:Type} {p:α→Bool} {l:List α} (h: ¬l.any p=true): ∀x∈l,p x=false:=fun x hx=>by
 cases hp:p x with
 | false=>rfl
 | true=>exact absurd (kf.2 ⟨x,hx,hp⟩) h
theorem aiU {n o l:Int} {ks:List Ex} (hk: ∀k∈ks,Gd n k) (hs:dx o l ks.length n=true):Gd n (dJ o l ks):=by
 rcases eH hs with ⟨rfl,h1,_⟩|⟨rfl,⟨rfl,h1⟩|⟨rfl,h1⟩|⟨rfl,h1⟩|⟨rfl,h1⟩|⟨rfl,h1⟩|⟨rfl,h1⟩|⟨rfl,h1⟩⟩
 ·rw[j5 (by omega)];exact .mk' hk ⟨by simp,by simp,by simp,by simp,by simp⟩ hs
 ·rw[j5 (by omega)];exact .mk' hk ⟨by simp,by simp,by simp,by simp,by simp⟩ hs
 ·rw[j5 (by omega)];exact .mk' hk ⟨by simp,by simp,by simp,by simp,by simp⟩ hs
 ·rw[wo]
  split
  ·exact WC
  ·rename_i hu
   refine Ol Ij (WG fun k h=>Dp hk 4 k (kg.1 h).1) (aiS ⟨Im,fun k h=> ?_⟩) (by omega)
   have U:=kg.1 (qC.1 h)
   exact ⟨aiO hk k U.1,gP U.2,any_false hu k U.1⟩
 ·rw[tQ]
  split
  ·exact Ij
  ·rename_i hu
   refine Ol WB (fun k h=>Dp hk 5 k (kg.1 h).1) (aiR fun k h=> ?_) (by omega)
   have U:=kg.1 h
   exact ⟨aiN hk k U.1,of_decide_eq_false (any_false hu k U.1),gP U.2⟩
 ·rw[zi]
  split
  ·exact Ij
  ·rename_i hu
   refine Ol WC (WG fun k h=>Dp hk 6 k (kg.1 h).1) (aiT ⟨Im,fun k h=> ?_⟩) (by omega)
   have U:=kg.1 (qC.1 h)
   exact ⟨aiP hk k U.1,of_decide_eq_false (any_false hu k U.1),by simpa using U.2⟩
 ·match ks,h1 with
  | [k],_=>
   rw[zj]
   split
   ·exact WB
   ·split
    ·exact hk k (by simp)
    ·rename_i U h3
     refine .mk' hk ⟨by simp,fun _ x hx=> ?_,by simp,by simp,by simp⟩ hs
     rw[ez.1 hx]
     exact ⟨by omega,by omega,fun h=>h3 (.inl h),by simpa using fun h=>h3 (.inr h)⟩
 ·match ks,h1 with
  | [k],_=>
   rw[zk]
   split
   ·rename_i h8
    have hg:=hk k (by simp)
    have l8:=eH hg.shape
    obtain ⟨o2,l2,mn⟩:=k
    simp only[Ex.op,Ex.kids,Ex.letter] at*
    match mn,(show (mn.length:Int)=1 by omega) with
    | [x],_=>exact hg.kids x (by simp[Ex.kids])
   ·rename_i h8
    refine .mk' hk ⟨fun _ x hx=> ?_,by simp,by simp,by simp,by simp⟩ hs
    rw[ez.1 hx]
    exact h8
theorem aiV {n o l:Int} {ks:List Ex} (hs:dx o l ks.length n=true):(dJ o l ks).size≤1+aR ks:=by
 have hl:=qB ks
 have z1:dZ.size=1:=by simp[dZ,size,aR]
 have z2:jr.size=1:=by simp[jr,size,aR]
 have z3:gM.size=2:=by simp[gM,dZ,size,aR]
 rcases eH hs with ⟨rfl,h1,_⟩|⟨rfl,⟨rfl,h1⟩|⟨rfl,h1⟩|⟨rfl,h1⟩|⟨rfl,h1⟩|⟨rfl,h1⟩|⟨rfl,h1⟩|⟨rfl,h1⟩⟩
 ·rw[j5 (by omega)];simp only[size];omega
 ·rw[j5 (by omega)];simp only[size];omega
 ·rw[j5 (by omega)];simp only[size];omega
 ·rw[wo]
  have a1:=zh 4 ks
  have a2:=Of (fun k=>decide (k.op≠1)) (bH 4 ks)
  have a3:=Og ((bH 4 ks).filter fun k=>decide (k.op≠1)) []
  simp only[aR] at a3
  split
  ·omega
  ·exact Oi (by omega) (by omega)
 ·rw[tQ]
  have a1:=zh 5 ks
  have a2:=Of (fun k=>decide (k.op≠2)) (bH 5 ks)
  split
  ·omega
  ·exact Oi (by omega) (by omega)
 ·rw[zi]
  have a1:=zh 6 ks
  have a2:=Of (fun k=> !(univ k)) (bH 6 ks)
  have a3:=Og ((bH 6 ks).filter fun k=> !(univ k)) []
  simp only[aR] at a3
  split
  ·omega
  ·exact Oi (by omega) (by omega)
 ·match ks,h1 with
  | [k],_=>
   rw[zj]
   simp only[aR] at*
   split
   ·omega
   ·split
    ·omega
    ·simp only[size,aR];omega
 ·match ks,h1 with
  | [k],_=>
   rw[zk]
   simp only[aR] at*
   split
   ·obtain ⟨o2,l2,mn⟩:=k
    match mn with
    | []=>simp[Ex.kids,bp,size,aR]
    | x::mn=>simp only[Ex.kids,Ak,size,aR];omega
   ·simp only[size,aR];omega
theorem aiW {n o l:Int} {ks:List Ex} (hs:dx o l ks.length n=true):(dJ o l ks).depth≤1+cR ks:=by
 have z1:dZ.depth=1:=by simp[dZ,depth,cR]
 have z2:jr.depth=1:=by simp[jr,depth,cR]
 have z3:gM.depth=2:=by simp[gM,dZ,depth,cR]
 have hl:2≤ks.length→1≤cR ks:=fun h=>by
  match ks,h with
  | k::ks,_=>have:=k.ad0;simp only[cR];omega
 rcases eH hs with ⟨rfl,h1,_⟩|⟨rfl,⟨rfl,h1⟩|⟨rfl,h1⟩|⟨rfl,h1⟩|⟨rfl,h1⟩|⟨rfl,h1⟩|⟨rfl,h1⟩|⟨rfl,h1⟩⟩
 ·rw[j5 (by omega)];simp only[depth];omega
 ·rw[j5 (by omega)];simp only[depth];omega
 ·rw[j5 (by omega)];simp only[depth];omega
 ·rw[wo]
  have a1:=si.1 (Oh (o:=4) (bU (cR ks)))
  have a3:cR (((bH 4 ks).filter fun k=>decide (k.op≠1)).foldl gg [])≤cR ks:=si.2 fun k h=>a1 k (kg.1 (qC.1 h)).1
  split
  ·omega
  ·exact Oj (by omega) (by omega)
 ·rw[tQ]
  have a1:=si.1 (Oh (o:=5) (bU (cR ks)))
  have a3:cR ((bH 5 ks).filter fun k=>decide (k.op≠2))≤cR ks:=si.2 fun k h=>a1 k (kg.1 h).1
  split
  ·omega
  ·exact Oj (by omega) (by omega)
 ·rw[zi]
  have a1:=si.1 (Oh (o:=6) (bU (cR ks)))
  have a3:cR (((bH 6 ks).filter fun k=> !(univ k)).foldl gg [])≤cR ks:=si.2 fun k h=>a1 k (kg.1 (qC.1 h)).1
  split
  ·omega
  ·exact Oj (by omega) (by omega)
 ·match ks,h1 with
  | [k],_=>
   rw[zj]
   simp only[cR] at*
   split
   ·omega
   ·split
    ·omega
    ·simp only[depth,cR];omega
 ·match ks,h1 with
  | [k],_=>
   rw[zk]
   simp only[cR] at*
   split
   ·obtain ⟨o2,l2,mn⟩:=k
    match mn with
    | []=>simp[Ex.kids,bp,depth,cR]
    | x::mn=>simp only[Ex.kids,Ak,depth,cR];omega
   ·simp only[depth,cR];omega
theorem mo {o l:Int} {ks:List Ex}:aV (.node o l ks)=dJ o l (ks.map aV):=by rw[aV,WA]
theorem mq {n:Int}: ∀e:Ex,e.wf n=true→Gd n (aV e):=ind fun o l ks ih hw=>by
 obtain ⟨h1,U⟩:=gf hw
 rw[mo]
 refine aiU (fun k hk=> ?_) (by simpa using h1)
 obtain ⟨x,hx,rfl⟩:=eB.1 hk
 exact ih x hx (U x hx)
theorem Dq {n:Int}: ∀e:Ex,e.wf n=true→(aV e).size≤e.size:=ind fun o l ks ih hw=>by
 obtain ⟨h1,U⟩:=gf hw
 have: ∀ks:List Ex,(∀k∈ks,(aV k).size≤k.size)→aR (ks.map aV)≤aR ks:=by
  intro ks
  induction ks with
  | nil=>intro _;simp[aR]
  | cons k ks ih=>intro h;have a:=h k (by simp);have b:=ih fun k hk=>h k (by simp[hk]);simp only[cr,aR];omega
 have h3:=this ks fun k hk=>ih k hk (U k hk)
 rw[mo]
 have:=aiV (n:=n) (o:=o) (l:=l) (ks:=ks.map aV) (by simpa using h1)
 simp only[size]
 omega
theorem aiX {n:Int}: ∀e:Ex,e.wf n=true→(aV e).depth≤e.depth:=ind fun o l ks ih hw=>by
 obtain ⟨h1,U⟩:=gf hw
 have h3:cR (ks.map aV)≤cR ks:=si.2 fun x hx=>by
  obtain ⟨k,hk,rfl⟩:=eB.1 hx
  exact kW (ih k hk (U k hk)) (WD hk)
 rw[mo]
 have:=aiW (n:=n) (o:=o) (l:=l) (ks:=ks.map aV) (by simpa using h1)
 simp only[depth]
 omega
theorem tR {n:Int} (hn:n≤6): ∀e:Ex,e.wf n=true→e.size≤1000000→e.Ok:=ind fun o l ks ih hw hs=>by
 obtain ⟨h1,U⟩:=gf hw
 have hl:=qB ks
 simp only[size] at hs
 have h3:=eH h1
 have hm:ks.length≤maxLen:=by unfold maxLen;omega
 exact .node (by omega) (by omega) hm fun k hk=>ih k hk (U k hk) (by have:=Dg hk;omega)
theorem Io {o:Int}: ∀{ks:List Ex},(∀k∈ks,k.op≠o)→bH o ks=ks
 | [],_=>rfl
 | k::ks,h=>by
  have e:bH o (k::ks)=(if k.op=o then k.kids else [k])++bH o ks:=by simp[bH]
  rw[e,ai (h k (by simp)),Io fun k hk=>h k (by simp[hk])]
  rfl
theorem Dr {o:Int} {l:List Ex} {z:Ex} (h:2≤l.length):fA o l z= .node o 0 l:=by
 match l,h with
 | k::k2::l,_=>rfl
theorem On {l:List Ex} (h:j4 l):l.foldl gg []=l:=Oe Im h fun x=>qC
theorem zl {α:Type} {p:α→Bool} {l:List α} (h: ∀x∈l,p x=false):l.any p=false:=by
 cases e:l.any p with
 | false=>rfl
 | true=>obtain ⟨x,h1,U⟩:=kf.1 e;rw[h x h1] at U;cases U
theorem aiY {n o l:Int} {ks:List Ex} (h:Gd n (.node o l ks)):dJ o l ks= .node o l ks:=by
 have hs:dx o l ks.length n=true:=h.shape
 have hk:sh o ks:=h.ok
 rcases eH hs with ⟨rfl,h1,_⟩|⟨rfl,⟨rfl,h1⟩|⟨rfl,h1⟩|⟨rfl,h1⟩|⟨rfl,h1⟩|⟨rfl,h1⟩|⟨rfl,h1⟩|⟨rfl,h1⟩⟩
 ·rw[j5 (by omega)]
 ·rw[j5 (by omega)]
 ·rw[j5 (by omega)]
 ·have h4:=hk.2.2.2.1 rfl
  rw[wo,Io fun k hk=>(h4.2 k hk).1,zl fun k hk=>(h4.2 k hk).2.2,oI.2 fun k hk=>eC (h4.2 k hk).2.1,On h4.1,Dr (by omega)]
  rfl
 ·have h5:=hk.2.2.1 rfl
  rw[tQ,Io fun k hk=>(h5 k hk).1,zl fun k hk=>ct (h5 k hk).2.1,oI.2 fun k hk=>eC (h5 k hk).2.2,Dr (by omega)]
  rfl
 ·have h6:=hk.2.2.2.2 rfl
  rw[zi,Io fun k hk=>(h6.2 k hk).1,zl fun k hk=>ct (h6.2 k hk).2.1,oI.2 fun k hk=>by rw[(h6.2 k hk).2.2];rfl,On h6.1,Dr (by omega)]
  rfl
 ·match ks,h1 with
  | [k],_=>
   have h7:=hk.2.1 rfl k (by simp)
   rw[zj,ai (by omega),ai]
   rintro (h|h)
   ·exact h7.2.2.1 h
   ·rw[h7.2.2.2] at h;cases h
 ·match ks,h1 with
  | [k],_=>rw[zk,ai (hk.1 rfl k (by simp))]
theorem WH {n:Int}: ∀e:Ex,Gd n e→aV e=e:=ind fun o l ks ih h=>by
 have:ks.map aV=ks:=by
  have U: ∀k∈ks,aV k=k:=fun k hk=>ih k hk (h.kids k hk)
  calc ks.map aV=ks.map id:=nt U
   _=ks:=List.map_id ks
 rw[mo,this,aiY h]
def Ip (e:Ex):List Ex:=if e.op=4 then e.kids else if e.op=1 then [] else [e]
def Iq (e:Ex):List Ex:=if e.op=5 then e.kids else if e.op=2 then [] else [e]
section
variable {n:Int} {ks:List Ex} (hk: ∀k∈ks,Gd n k)
include hk
theorem ff4:(bH 4 ks).filter (fun k=>decide (k.op≠1))=ks.flatMap Ip:=by
 induction ks with
 | nil=>rfl
 | cons k ks ih=>
  have e:bH 4 (k::ks)=(if k.op=4 then k.kids else [k])++bH 4 ks:=by simp[bH]
  rw[e,nw,mz,ih fun k h=>hk k (by simp[h])]
  refine congrArg (· ++_) ?_
  unfold Ip
  have h:=hk k (by simp)
  by_cases h4:k.op=4
  ·rw[ah h4,ah h4]
   exact oI.2 fun x hx=>eC ((h.ok.2.2.2.1 h4).2 x hx).2.1
  ·rw[ai h4,ai h4]
   by_cases h1:k.op=1
   ·rw[ah h1];simp[h1]
   ·rw[ai h1];simp[h1]
theorem ff5:(bH 5 ks).filter (fun k=>decide (k.op≠2))=ks.flatMap Iq:=by
 induction ks with
 | nil=>rfl
 | cons k ks ih=>
  have e:bH 5 (k::ks)=(if k.op=5 then k.kids else [k])++bH 5 ks:=by simp[bH]
  rw[e,nw,mz,ih fun k h=>hk k (by simp[h])]
  refine congrArg (· ++_) ?_
  unfold Iq
  have h:=hk k (by simp)
  by_cases h4:k.op=5
  ·rw[ah h4,ah h4]
   exact oI.2 fun x hx=>eC (h.ok.2.2.1 h4 x hx).2.2
  ·rw[ai h4,ai h4]
   by_cases h1:k.op=2
   ·rw[ah h1];simp[h1]
   ·rw[ai h1];simp[h1]
theorem aiZ {l:Int}:dJ 4 l ks=if ks.any univ then gM else fA 4 ((ks.flatMap Ip).foldl gg []) dZ:=by
 rw[wo,WE hk,ff4 hk]
theorem ai0 {l:Int}:dJ 5 l ks=if ks.any (fun k=>decide (k.op=1)) then dZ else fA 5 (ks.flatMap Iq) jr:=by
 rw[tQ,Om hk,ff5 hk]
end
theorem ai1 {n:Int} {x:Ex} (h:Gd n x):dJ 4 0 [x]=x:=by
 rw[aiZ (n:=n) (by simpa using h)]
 simp only[List.any_cons,List.any_nil,Bool.or_false,mz,List.flatMap_nil,dz]
 by_cases hu:univ x=true
 ·rw[ah hu,Ik h hu]
 ·rw[ai hu]
  unfold Ip
  by_cases h4:x.op=4
  ·rw[ah h4]
   have hs:=eH h.shape
   have U:=h.ok.2.2.2.1 h4
   obtain ⟨o,l,ks⟩:=x
   simp only[Ex.op,Ex.kids,Ex.letter] at*
   rw[On U.1,Dr (by omega),h4,show l=0 by omega]
  ·rw[ai h4]
   by_cases h1:x.op=1
   ·rw[ah h1,empty_eq h h1];rfl
   ·rw[ai h1];rfl
theorem ai2 {n:Int} {x:Ex} (h:Gd n x):dJ 5 0 [x]=x:=by
 rw[ai0 (n:=n) (by simpa using h)]
 simp only[List.any_cons,List.any_nil,Bool.or_false,mz,List.flatMap_nil,dz]
 by_cases hu:x.op=1
 ·rw[eC hu,ah rfl,empty_eq h hu]
 ·rw[ct hu,ai (by simp)]
  unfold Iq
  by_cases h4:x.op=5
  ·rw[ah h4]
   have hs:=eH h.shape
   obtain ⟨o,l,ks⟩:=x
   simp only[Ex.op,Ex.kids,Ex.letter] at*
   rw[Dr (by omega),h4,show l=0 by omega]
  ·rw[ai h4]
   by_cases h1:x.op=2
   ·rw[ah h1,unit_eq h h1];rfl
   ·rw[ai h1];rfl
end Go.AM
set_option maxRecDepth 100000
namespace Go.AM
open Go.Proofs
noncomputable def WI (C:ae) (aj ar:Int) (ag:List V):Option (List V):=
 some [.bool ((aj:Int)==2)]
theorem ai3 {aj ar:Int} {ag:List V} {r:Option (List V)} (h:WI CC aj ar ag=r):CC pd [.int .i64 aj,.int .i64 ar,.list aa ag]=r:=
 aZ (key:=80) (L:=bX) (bs:=[]) (by kernel_rfl) aw (aX (by kernel_rfl) h)
noncomputable abbrev WJ:Code:=cj Tryz.prog (av.aQ 71)
noncomputable def zm (C:ae) (s:List V) (t7 t8:Int) {β:Type} (kn:Int→Option β) (kr:((Int) ⊕ (Int × Bool))→Option β):Option β:=
 bif decide ((t8:Int)<t7) then
  (idx s t8).bind fun x1=>
  (C mf [.int .i64 ((x1.cell 0).toInt),.int .i64 ((x1.cell 1).toInt),.list aa ((x1.cell 2).toList)]).bind fun r2=>
  bif (V.nth r2 0).toBool then
  kr (.inl t8)
  else
  kn (IntKind.wrap .i64 (t8+1))
 else
  kr (.inr (t8,decide ((t8:Int)<t7)))
noncomputable def wq (C:ae) (s:List V) (t7:Int):(Int)→Option ((Int) ⊕ ((Int) ⊕ (Int × Bool))):=fun t8=>zm C s t7 t8 (fun y=>some (.inl y)) (fun r=>some (.inr r))
noncomputable def WK (C:ae):b8:=fun β n ds k=>
 bif Nat.beq n 33 then bM Mx [false,false,true] [[0],[1,2,0,0]] (@zm C) ds k else
 none
abbrev ai4 (C:ae) (b:bZ):Prop:=b6 Tryz.prog av C (WK C) 71 (cl Tryz.prog (av.aQ 71)) (av.sin 71).bc.length b
theorem ai5 (C:ae):ai4 C (.loop (ax [1,0,1,0,0] WJ)):=
 bP Mx [false,false,true] [[0],[1,2,0,0]] (@zm C) (by kernel_rfl) (a9 (bs:=[]) (by kernel_rfl) aw) (fun ds=>by kernel_rfl) (fun i x=>by kernel_rfl) (fun i x β k=>by kernel_rfl) (fun β ds k=>by kernel_rfl)
noncomputable def Oo (C:ae) (s:List V):Option (List V):=
 (Loop (wq C s (s.length:Int)) 0).bind (cB (fun (kL:Int)=>
  some [.int .i64 kL]) (un fun (mZ:Int) (iJ:Bool)=>
  some [.int .i64 (-1)]))
theorem WM {s:List V} {r:Option (List V)} (h:Oo CC s=r):CC rW [.list aa s]=r:=
 aZ (key:=71) (L:=WK CC) (bs:=[.loop (ax [1,0,1,0,0] WJ)]) (by kernel_rfl) (br (ai5 CC) aw) (aX (by kernel_rfl) h)
noncomputable def WN (C:ae) (s:List V):Option (List V):=
 (C rW [.list aa s]).bind fun r1=>
 some [.bool (decide ((((V.nth r1 0).toInt):Int)≥0))]
theorem ai6 {s:List V} {r:Option (List V)} (h:WN CC s=r):CC tm [.list aa s]=r:=
 aZ (key:=52) (L:=bX) (bs:=[]) (by kernel_rfl) aw (aX (by kernel_rfl) h)
noncomputable abbrev WO:Code:=cj Tryz.prog (av.aQ 135)
noncomputable def zn (C:ae) (i j:Int) (ss:List V) {β:Type} (kn:(Int × Int × (List V))→Option β) (kr:(Int × Int × Bool × (List V))→Option β):Option β:=
 bif decide ((j:Int)<(ss.length:Int)) then
  bif (decide (0≤j))&&(decide (j<(ss.length:Int))) then
  (ss[(j:Int).toNat]?).bind fun x2=>
  (C mf [.int .i64 ((x2.cell 0).toInt),.int .i64 ((x2.cell 1).toInt),.list aa ((x2.cell 2).toList)]).bind fun r3=>
  bif !((V.nth r3 0).toBool) then
   bif (decide (0≤i))&&(decide (i<(ss.length:Int))) then
   (ss[(i:Int).toNat]?).bind fun x4=>
   kn (IntKind.wrap .i64 (i+1),IntKind.wrap .i64 (j+1),ss.set ((i:Int).toNat) (.agg [.int .i64 ((x2.cell 0).toInt),.int .i64 ((x2.cell 1).toInt),.list aa ((x2.cell 2).toList)]))
   else none
  else
   kn (i,IntKind.wrap .i64 (j+1),ss)
  else none
 else
  kr (i,j,decide ((j:Int)<(ss.length:Int)),ss)
noncomputable def wu (C:ae):(Int × Int × (List V))→Option ((Int × Int × (List V)) ⊕ (Int × Int × Bool × (List V))):=un fun i=>un fun j ss=>zn C i j ss (fun y=>some (.inl y)) (fun r=>some (.inr r))
noncomputable def WQ (C:ae):b8:=fun β n ds k=>
 bif Nat.beq n 81 then bM Nb [true,true,true] [[0,0,0,0]] (@zn C) ds k else
 none
abbrev ai7 (C:ae) (b:bZ):Prop:=b6 Tryz.prog av C (WQ C) 135 (cl Tryz.prog (av.aQ 135)) (av.sin 135).bc.length b
theorem ai8 (C:ae):ai7 C (.loop (ax [1,1,1,0,1,0,0] WO)):=
 bP Nb [true,true,true] [[0,0,0,0]] (@zn C) (by kernel_rfl) (a9 (bs:=[]) (by kernel_rfl) aw) (fun ds=>by kernel_rfl) (fun i x=>by kernel_rfl) (fun i x β k=>by kernel_rfl) (fun β ds k=>by kernel_rfl)
noncomputable def Oq (C:ae) (ss:List V):Option (List V):=
 (C rW [.list aa ss]).bind fun r1=>
 bif (((V.nth r1 0).toInt):Int)==(-1) then
  some [V.bool true,.list aa ss]
 else
  (Loop (wu C) ((V.nth r1 0).toInt,IntKind.wrap .i64 (((V.nth r1 0).toInt)+1),ss)).bind (un fun (cY:Int)=>un fun (Ot:Int)=>un fun (od:Bool) (eW:List V)=>
   bif (decide (0≤cY))&&(decide (cY≤(eW.length:Int))) then
   bif (decide (0≤cY))&&(decide (cY≤((eW.take ((cY:Int).toNat)++(List.replicate (eW.length-((cY:Int).toNat)) (V.agg [.int .i64 0,.int .i64 0,.list aa ([]:List V)])++eW.drop (((cY:Int).toNat)+(eW.length-((cY:Int).toNat))))).length:Int))) then
    some [V.bool false,.list aa ((eW.take ((cY:Int).toNat)++(List.replicate (eW.length-((cY:Int).toNat)) (V.agg [.int .i64 0,.int .i64 0,.list aa ([]:List V)])++eW.drop (((cY:Int).toNat)+(eW.length-((cY:Int).toNat))))).take ((cY:Int).toNat))]
   else none
   else none)
theorem WR {ss:List V} {r:Option (List V)} (h:Oq CC ss=r):CC Ho [.list aa ss]=r:=
 aZ (key:=135) (L:=WQ CC) (bs:=[.loop (ax [1,1,1,0,1,0,0] WO)]) (by kernel_rfl) (br (ai8 CC) aw) (aX (by kernel_rfl) h)
noncomputable abbrev WS:Code:=cj Tryz.prog (av.aQ 134)
noncomputable def zo (C:ae) (s:List V) (t7 t8:Int) {β:Type} (kn:Int→Option β) (kr:((Int) ⊕ (Int × Bool))→Option β):Option β:=
 bif decide ((t8:Int)<t7) then
  (idx s t8).bind fun x1=>
  (C pd [.int .i64 ((x1.cell 0).toInt),.int .i64 ((x1.cell 1).toInt),.list aa ((x1.cell 2).toList)]).bind fun r2=>
  bif (V.nth r2 0).toBool then
  kr (.inl t8)
  else
  kn (IntKind.wrap .i64 (t8+1))
 else
  kr (.inr (t8,decide ((t8:Int)<t7)))
noncomputable def wv (C:ae) (s:List V) (t7:Int):(Int)→Option ((Int) ⊕ ((Int) ⊕ (Int × Bool))):=fun t8=>zo C s t7 t8 (fun y=>some (.inl y)) (fun r=>some (.inr r))
noncomputable def WU (C:ae):b8:=fun β n ds k=>
 bif Nat.beq n 33 then bM Na [false,false,true] [[0],[1,2,0,0]] (@zo C) ds k else
 none
abbrev ai9 (C:ae) (b:bZ):Prop:=b6 Tryz.prog av C (WU C) 134 (cl Tryz.prog (av.aQ 134)) (av.sin 134).bc.length b
theorem aja (C:ae):ai9 C (.loop (ax [1,0,1,0,0] WS)):=
 bP Na [false,false,true] [[0],[1,2,0,0]] (@zo C) (by kernel_rfl) (a9 (bs:=[]) (by kernel_rfl) aw) (fun ds=>by kernel_rfl) (fun i x=>by kernel_rfl) (fun i x β k=>by kernel_rfl) (fun β ds k=>by kernel_rfl)
noncomputable def Ou (C:ae) (s:List V):Option (List V):=
 (Loop (wv C s (s.length:Int)) 0).bind (cB (fun (kL:Int)=>
  some [.int .i64 kL]) (un fun (mZ:Int) (iJ:Bool)=>
  some [.int .i64 (-1)]))
theorem WV {s:List V} {r:Option (List V)} (h:Ou CC s=r):CC Hn [.list aa s]=r:=
 aZ (key:=134) (L:=WU CC) (bs:=[.loop (ax [1,0,1,0,0] WS)]) (by kernel_rfl) (br (aja CC) aw) (aX (by kernel_rfl) h)
noncomputable abbrev WW:Code:=cj Tryz.prog (av.aQ 133)
noncomputable def zp (C:ae) (i j:Int) (ss:List V) {β:Type} (kn:(Int × Int × (List V))→Option β) (kr:(Int × Int × Bool × (List V))→Option β):Option β:=
 bif decide ((j:Int)<(ss.length:Int)) then
  bif (decide (0≤j))&&(decide (j<(ss.length:Int))) then
  (ss[(j:Int).toNat]?).bind fun x2=>
  (C pd [.int .i64 ((x2.cell 0).toInt),.int .i64 ((x2.cell 1).toInt),.list aa ((x2.cell 2).toList)]).bind fun r3=>
  bif !((V.nth r3 0).toBool) then
   bif (decide (0≤i))&&(decide (i<(ss.length:Int))) then
   (ss[(i:Int).toNat]?).bind fun x4=>
   kn (IntKind.wrap .i64 (i+1),IntKind.wrap .i64 (j+1),ss.set ((i:Int).toNat) (.agg [.int .i64 ((x2.cell 0).toInt),.int .i64 ((x2.cell 1).toInt),.list aa ((x2.cell 2).toList)]))
   else none
  else
   kn (i,IntKind.wrap .i64 (j+1),ss)
  else none
 else
  kr (i,j,decide ((j:Int)<(ss.length:Int)),ss)
noncomputable def wz (C:ae):(Int × Int × (List V))→Option ((Int × Int × (List V)) ⊕ (Int × Int × Bool × (List V))):=un fun i=>un fun j ss=>zp C i j ss (fun y=>some (.inl y)) (fun r=>some (.inr r))
noncomputable def WX (C:ae):b8:=fun β n ds k=>
 bif Nat.beq n 81 then bM M9 [true,true,true] [[0,0,0,0]] (@zp C) ds k else
 none
abbrev ajb (C:ae) (b:bZ):Prop:=b6 Tryz.prog av C (WX C) 133 (cl Tryz.prog (av.aQ 133)) (av.sin 133).bc.length b
theorem ajc (C:ae):ajb C (.loop (ax [1,1,1,0,1,0,0] WW)):=
 bP M9 [true,true,true] [[0,0,0,0]] (@zp C) (by kernel_rfl) (a9 (bs:=[]) (by kernel_rfl) aw) (fun ds=>by kernel_rfl) (fun i x=>by kernel_rfl) (fun i x β k=>by kernel_rfl) (fun β ds k=>by kernel_rfl)
noncomputable def Ov (C:ae) (ss:List V):Option (List V):=
 (C Hn [.list aa ss]).bind fun r1=>
 bif (((V.nth r1 0).toInt):Int)==(-1) then
  some [V.bool true,.list aa ss]
 else
  (Loop (wz C) ((V.nth r1 0).toInt,IntKind.wrap .i64 (((V.nth r1 0).toInt)+1),ss)).bind (un fun (cY:Int)=>un fun (Ot:Int)=>un fun (od:Bool) (eW:List V)=>
   bif (decide (0≤cY))&&(decide (cY≤(eW.length:Int))) then
   bif (decide (0≤cY))&&(decide (cY≤((eW.take ((cY:Int).toNat)++(List.replicate (eW.length-((cY:Int).toNat)) (V.agg [.int .i64 0,.int .i64 0,.list aa ([]:List V)])++eW.drop (((cY:Int).toNat)+(eW.length-((cY:Int).toNat))))).length:Int))) then
    some [V.bool false,.list aa ((eW.take ((cY:Int).toNat)++(List.replicate (eW.length-((cY:Int).toNat)) (V.agg [.int .i64 0,.int .i64 0,.list aa ([]:List V)])++eW.drop (((cY:Int).toNat)+(eW.length-((cY:Int).toNat))))).take ((cY:Int).toNat))]
   else none
   else none)
theorem WY {ss:List V} {r:Option (List V)} (h:Ov CC ss=r):CC Hm [.list aa ss]=r:=
 aZ (key:=133) (L:=WX CC) (bs:=[.loop (ax [1,1,1,0,1,0,0] WW)]) (by kernel_rfl) (br (ajc CC) aw) (aX (by kernel_rfl) h)
noncomputable abbrev WZ:Code:=cj Tryz.prog (av.aQ 132)
noncomputable def zq (C:ae) (s:List V) (t7 t8:Int) {β:Type} (kn:Int→Option β) (kr:((Int) ⊕ (Int × Bool))→Option β):Option β:=
 bif decide ((t8:Int)<t7) then
  (idx s t8).bind fun x1=>
  (C lz [.int .i64 ((x1.cell 0).toInt),.int .i64 ((x1.cell 1).toInt),.list aa ((x1.cell 2).toList)]).bind fun r2=>
  bif (V.nth r2 0).toBool then
  kr (.inl t8)
  else
  kn (IntKind.wrap .i64 (t8+1))
 else
  kr (.inr (t8,decide ((t8:Int)<t7)))
noncomputable def wA (C:ae) (s:List V) (t7:Int):(Int)→Option ((Int) ⊕ ((Int) ⊕ (Int × Bool))):=fun t8=>zq C s t7 t8 (fun y=>some (.inl y)) (fun r=>some (.inr r))
noncomputable def W0 (C:ae):b8:=fun β n ds k=>
 bif Nat.beq n 33 then bM M8 [false,false,true] [[0],[1,2,0,0]] (@zq C) ds k else
 none
abbrev ajd (C:ae) (b:bZ):Prop:=b6 Tryz.prog av C (W0 C) 132 (cl Tryz.prog (av.aQ 132)) (av.sin 132).bc.length b
theorem aje (C:ae):ajd C (.loop (ax [1,0,1,0,0] WZ)):=
 bP M8 [false,false,true] [[0],[1,2,0,0]] (@zq C) (by kernel_rfl) (a9 (bs:=[]) (by kernel_rfl) aw) (fun ds=>by kernel_rfl) (fun i x=>by kernel_rfl) (fun i x β k=>by kernel_rfl) (fun β ds k=>by kernel_rfl)
noncomputable def Ow (C:ae) (s:List V):Option (List V):=
 (Loop (wA C s (s.length:Int)) 0).bind (cB (fun (kL:Int)=>
  some [.int .i64 kL]) (un fun (mZ:Int) (iJ:Bool)=>
  some [.int .i64 (-1)]))
theorem W3 {s:List V} {r:Option (List V)} (h:Ow CC s=r):CC BW [.list aa s]=r:=
 aZ (key:=132) (L:=W0 CC) (bs:=[.loop (ax [1,0,1,0,0] WZ)]) (by kernel_rfl) (br (aje CC) aw) (aX (by kernel_rfl) h)
noncomputable def W4 (C:ae) (s:List V):Option (List V):=
 (C BW [.list aa s]).bind fun r1=>
 some [.bool (decide ((((V.nth r1 0).toInt):Int)≥0))]
theorem ajf {s:List V} {r:Option (List V)} (h:W4 CC s=r):CC LJ [.list aa s]=r:=
 aZ (key:=131) (L:=bX) (bs:=[]) (by kernel_rfl) aw (aX (by kernel_rfl) h)
noncomputable abbrev W5:Code:=cj Tryz.prog (av.aQ 75)
noncomputable def zr (C:ae) (i j:Int) (ss:List V) {β:Type} (kn:(Int × Int × (List V))→Option β) (kr:(Int × Int × Bool × (List V))→Option β):Option β:=
 bif decide ((j:Int)<(ss.length:Int)) then
  bif (decide (0≤j))&&(decide (j<(ss.length:Int))) then
  (ss[(j:Int).toNat]?).bind fun x2=>
  (C lz [.int .i64 ((x2.cell 0).toInt),.int .i64 ((x2.cell 1).toInt),.list aa ((x2.cell 2).toList)]).bind fun r3=>
  bif !((V.nth r3 0).toBool) then
   bif (decide (0≤i))&&(decide (i<(ss.length:Int))) then
   (ss[(i:Int).toNat]?).bind fun x4=>
   kn (IntKind.wrap .i64 (i+1),IntKind.wrap .i64 (j+1),ss.set ((i:Int).toNat) (.agg [.int .i64 ((x2.cell 0).toInt),.int .i64 ((x2.cell 1).toInt),.list aa ((x2.cell 2).toList)]))
   else none
  else
   kn (i,IntKind.wrap .i64 (j+1),ss)
  else none
 else
  kr (i,j,decide ((j:Int)<(ss.length:Int)),ss)
noncomputable def wB (C:ae):(Int × Int × (List V))→Option ((Int × Int × (List V)) ⊕ (Int × Int × Bool × (List V))):=un fun i=>un fun j ss=>zr C i j ss (fun y=>some (.inl y)) (fun r=>some (.inr r))
noncomputable def W6 (C:ae):b8:=fun β n ds k=>
 bif Nat.beq n 81 then bM My [true,true,true] [[0,0,0,0]] (@zr C) ds k else
 none
abbrev ajg (C:ae) (b:bZ):Prop:=b6 Tryz.prog av C (W6 C) 75 (cl Tryz.prog (av.aQ 75)) (av.sin 75).bc.length b
theorem ajh (C:ae):ajg C (.loop (ax [1,1,1,0,1,0,0] W5)):=
 bP My [true,true,true] [[0,0,0,0]] (@zr C) (by kernel_rfl) (a9 (bs:=[]) (by kernel_rfl) aw) (fun ds=>by kernel_rfl) (fun i x=>by kernel_rfl) (fun i x β k=>by kernel_rfl) (fun β ds k=>by kernel_rfl)
noncomputable def Ox (C:ae) (ss:List V):Option (List V):=
 (C BW [.list aa ss]).bind fun r1=>
 bif (((V.nth r1 0).toInt):Int)==(-1) then
  some [V.bool true,.list aa ss]
 else
  (Loop (wB C) ((V.nth r1 0).toInt,IntKind.wrap .i64 (((V.nth r1 0).toInt)+1),ss)).bind (un fun (cY:Int)=>un fun (Ot:Int)=>un fun (od:Bool) (eW:List V)=>
   bif (decide (0≤cY))&&(decide (cY≤(eW.length:Int))) then
   bif (decide (0≤cY))&&(decide (cY≤((eW.take ((cY:Int).toNat)++(List.replicate (eW.length-((cY:Int).toNat)) (V.agg [.int .i64 0,.int .i64 0,.list aa ([]:List V)])++eW.drop (((cY:Int).toNat)+(eW.length-((cY:Int).toNat))))).length:Int))) then
    some [V.bool false,.list aa ((eW.take ((cY:Int).toNat)++(List.replicate (eW.length-((cY:Int).toNat)) (V.agg [.int .i64 0,.int .i64 0,.list aa ([]:List V)])++eW.drop (((cY:Int).toNat)+(eW.length-((cY:Int).toNat))))).take ((cY:Int).toNat))]
   else none
   else none)
theorem W7 {ss:List V} {r:Option (List V)} (h:Ox CC ss=r):CC yE [.list aa ss]=r:=
 aZ (key:=75) (L:=W6 CC) (bs:=[.loop (ax [1,1,1,0,1,0,0] W5)]) (by kernel_rfl) (br (ajh CC) aw) (aX (by kernel_rfl) h)
end Go.AM
set_option maxRecDepth 100000
namespace Go.AM
open Go.Proofs Ex
def fP (k:Ex):Bool:=decide (k.op=1)
def gB (k:Ex):Bool:=decide (k.op=2)
theorem Ds (k:Ex):CC mf (bY k [])=some [.bool (fP k)]:=by
 refine VH ?_
 unfold NT fP
 rw[Df]
theorem Ir (k:Ex):CC pd (bY k [])=some [.bool (gB k)]:=by
 refine ai3 ?_
 unfold WI gB
 rw[Df]
theorem Dt (k:Ex):CC lz (bY k [])=some [.bool (univ k)]:=by
 obtain ⟨o,l,ks⟩:=k
 refine VI ?_
 unfold NU univ
 simp only[Ex.op,Ex.kids,dC,bw]
 by_cases h1:o=8
 ·rw[ah h1]
  match ks with
  | []=>simp
  | [k]=>
   rw[ah (by simp)]
   simp only[cr,fl,List.getElem?_cons_zero,Option.bind_some,bz,bA,bB]
   refine (congrArg (fun o=>Option.bind o _) (Ds k)).trans ?_
   simp only[h1,fP]
   simp
   rfl
  | k::k2::ks=>
   rw[ai (by simp<;>omega)]
   simp
 ·rw[ai h1];simp[h1]
theorem lE {l:List Ex} {j:Nat} (h:j<l.length):l.take (j+1)=l.take j++[l.getD j bp]:=by
 rw[List.take_succ_eq_append_getElem h];simp[h]
theorem Du {l ss:List Ex} {j:Nat} (hl:ss.length=l.length) (h:ss.drop j=l.drop j) (hj:j<l.length):ss.getD j bp=l.getD j bp:=by
 have h1:=congrArg (fun x:List Ex=>x.getD 0 bp) h
 simpa[hj,hl] using h1
theorem pr {l:List Ex} {i:Nat} (h:i<l.length):(l.map enc)[i]? =some (l.getD i bp).enc:=by simp[h]
theorem Is (ss:List Ex) (m:Nat) (z:V) (hm:m≤ss.length):((((ss.map enc).take m++(List.replicate ((ss.map enc).length-m) z++(ss.map enc).drop (m+((ss.map enc).length-m)))).take m)=(ss.take m).map enc):=by
 rw[List.take_append_of_le_length (by simp;omega),List.take_of_length_le (by simp;omega),List.map_take]
theorem aji {ks:List Ex} (hlen:ks.length≤1000000): ∀(aH pre:List Ex),ks=pre++aH→(∀k∈pre,fP k=false)→
  (ks.any fP=false∧∃t,Loop (wq CC (ks.map enc) ((ks.map enc).length:Int)) ((pre.length:Nat):Int)=some (.inr t))∨
  (∃i:Nat,i<ks.length∧fP (ks.getD i bp)=true∧(∀k∈ks.take i,fP k=false)∧Loop (wq CC (ks.map enc) ((ks.map enc).length:Int)) ((pre.length:Nat):Int)=some (.inl (i:Int))):=by
 intro aH
 induction aH with
 | nil=>
  intro pre bq hp
  rw[dz] at bq
  subst bq
  refine .inl ⟨zl hp,⟨(((ks.length:Nat):Int),false),bj ?_⟩⟩
  ·simp only[wq,zm,bw,az]
   rw[ai (by omega),ct (by omega)]
 | cons k aH ih=>
  intro pre bq hp
  have cb:pre.length<ks.length:=by rw[bq];simp
  have cC:idx (ks.map enc) (pre.length:Int)=some k.enc:=by rw[bq];exact jD _ _ _
  cases hk:fP k with
  | true=>
   refine .inr ⟨pre.length,cb,by rw[bq];simpa using hk,by rw[bq];simpa using hp,bj ?_⟩
   simp only[wq,zm,bw,az]
   rw[ah (by omega),cC]
   simp only[Option.bind_some,bz,bA,bB]
   refine (congrArg (fun o=>Option.bind o _) (Ds k)).trans ?_
   simp only[Option.bind_some,V.aC,V.cN]
   rw[hk,cond_true]
  | false=>
   have bG:wq CC (ks.map enc) ((ks.map enc).length:Int) ((pre.length:Nat):Int)=some (.inl (((pre++[k]).length:Nat):Int)):=by
    simp only[wq,zm,bw,az]
    rw[ah (by omega),cC]
    simp only[Option.bind_some,bz,bA,bB]
    refine (congrArg (fun o=>Option.bind o _) (Ds k)).trans ?_
    simp only[Option.bind_some,V.aC,V.cN]
    rw[hk,cond_false,wrap64 (by omega) (by omega)]
    simp
   rw[bW bG]
   refine ih (pre++[k]) (by rw[bq];simp) fun x hx=> ?_
   rcases eM.1 hx with hx|hx
   ·exact hp x hx
   ·rw[ez.1 hx];exact hk
theorem W8 {ks:List Ex} (hlen:ks.length≤1000000):
  (ks.any fP=false∧CC rW [.list aa (ks.map enc)]=some [.int .i64 (-1)])∨
  (∃i:Nat,i<ks.length∧fP (ks.getD i bp)=true∧(∀k∈ks.take i,fP k=false)∧CC rW [.list aa (ks.map enc)]=some [.int .i64 (i:Int)]):=by
 rcases aji hlen ks [] rfl (by simp) with ⟨h1,t,U⟩|⟨i,h1,U,h3,h4⟩
 ·refine .inl ⟨h1,WM ?_⟩
  unfold Oo
  refine (congrArg (fun o=>Option.bind o _) U).trans ?_
  rfl
 ·refine .inr ⟨i,h1,U,h3,WM ?_⟩
  unfold Oo
  refine (congrArg (fun o=>Option.bind o _) h4).trans ?_
  rfl
theorem ajj {ks:List Ex} (hlen:ks.length≤1000000):CC tm [.list aa (ks.map enc)]=some [.bool (ks.any fP)]:=by
 refine ai6 ?_
 unfold WN
 rcases W8 hlen with ⟨h1,U⟩|⟨i,h1,U,h3,h4⟩
 ·refine (congrArg (fun o=>Option.bind o _) U).trans ?_
  rw[h1];rfl
 ·refine (congrArg (fun o=>Option.bind o _) h4).trans ?_
  rw[kf.2 ⟨_,by rw[show ks.getD i bp=ks[i] by simp[h1]];exact List.getElem_mem h1,U⟩]
  simp
theorem ajk {ks:List Ex} (hn:ks.length≤1000000): ∀(d j i:Nat) (ss:List Ex),j+d=ks.length→i≤j→ss.length=ks.length→ss.take i=(ks.take j).filter (fun k=> !(fP k))→ss.drop j=ks.drop j→
  ∃t fi,Loop (wu CC) ((i:Int),(j:Int),ss.map enc)=some (((ks.filter (fun k=> !(fP k))).length:Int),(ks.length:Int),t,List.map enc fi)∧fi.take (ks.filter (fun k=> !(fP k))).length=ks.filter (fun k=> !(fP k))∧fi.length=ks.length:=by
 intro d
 induction d with
 | zero=>
  intro j i ss hj hi hl ht hd
  obtain rfl:j=ks.length:=by omega
  rw[qO] at ht
  have g9:i=(ks.filter (fun k=> !(fP k))).length:=by rw[←ht,fS];omega
  refine ⟨false,ss,bj ?_,by rw[←g9];exact ht,hl⟩
  simp only[wu,zn,un,bw,az]
  rw[ai (by omega),ct (by omega),g9]
 | succ d ih=>
  intro j i ss hj hi hl ht hd
  have cp:j<ks.length:=by omega
  have hg:=Du hl hd cp
  have jb:ss.drop (j+1)=ks.drop (j+1):=by rw[←pH,←pH,hd]
  have hx:(ss.map enc)[j]? =some (ks.getD j bp).enc:=by rw[pr (by omega),hg]
  have t1:((j:Nat):Int)<(ss.length:Int):=by omega
  have t2:(0:Int)≤((j:Nat):Int):=by omega
  have t3:((i:Nat):Int)<(ss.length:Int):=by omega
  have t4:(0:Int)≤((i:Nat):Int):=by omega
  have cC: ∃y,(ss.map enc)[i]? =some y:=⟨_,pr (by omega)⟩
  obtain ⟨y,hy⟩:=cC
  cases hk:fP (ks.getD j bp) with
  | true=>
   have bG:wu CC ((i:Int),(j:Int),ss.map enc)=some (.inl ((i:Int),((j+1:Nat):Int),ss.map enc)):=by
    simp only[wu,zn,un,bw,az,cu,t1,t2,cU,Int.toNat_natCast,hx,Option.bind_some,bz,bA,bB]
    refine (congrArg (fun o=>Option.bind o _) (Ds (ks.getD j bp))).trans ?_
    simp only[Option.bind_some,V.aC,V.cN]
    rw[hk,qQ,cond_false,wrap64 (by omega) (by omega)]
    rfl
   rw[bW bG]
   refine ih (j+1) i ss (by omega) (by omega) hl ?_ jb
   rw[lE cp,nw,ht,pI,hk]
   simp
  | false=>
   have bG:wu CC ((i:Int),(j:Int),ss.map enc)=some (.inl (((i+1:Nat):Int),((j+1:Nat):Int),(ss.set i (ks.getD j bp)).map enc)):=by
    simp only[wu,zn,un,bw,az,cu,t1,t2,t3,t4,cU,Int.toNat_natCast,hx,hy,Option.bind_some,bz,bA,bB]
    refine (congrArg (fun o=>Option.bind o _) (Ds (ks.getD j bp))).trans ?_
    simp only[Option.bind_some,V.aC,V.cN]
    rw[hk,ur,cond_true,wrap64 (by omega) (by omega),wrap64 (by omega) (by omega),←eY,Al]
    rfl
   rw[bW bG]
   refine ih (j+1) (i+1) (ss.set i (ks.getD j bp)) (by omega) (by omega) (by simpa using hl) ?_ ?_
   ·rw[lE (by rw[nq];omega),ES (bU i),ht,lE cp,nw,pI,hk]
    simp[show i<ss.length by omega]
   ·rw[ET (by omega),jb]
theorem ajl {ks:List Ex} (hn:ks.length≤1000000): ∃b,CC Ho [.list aa (ks.map enc)]=some [.bool b,.list aa ((ks.filter (fun k=> !(fP k))).map enc)]:=by
 rcases W8 hn with ⟨h1,U⟩|⟨i,h1,U,h3,h4⟩
 ·refine ⟨true,WR ?_⟩
  unfold Oq
  refine (congrArg (fun o=>Option.bind o _) U).trans ?_
  rw[oI.2 fun k hk=>show (!(fP k))=true by rw[any_false (p:=fP) (by rw[h1];simp) k hk];rfl]
  rfl
 ·have hf:(ks.take (i+1)).filter (fun k=> !(fP k))=ks.take i:=by
   rw[lE h1,nw,pI,U,oI.2 fun k hk=>show (!(fP k))=true by rw[h3 k hk];rfl]
   simp
  obtain ⟨t,fi,e1,e2,e3⟩:=ajk hn (ks.length-(i+1)) (i+1) i ks (by omega) (by omega) rfl hf.symm rfl
  refine ⟨false,WR ?_⟩
  unfold Oq
  refine (congrArg (fun o=>Option.bind o _) h4).trans ?_
  simp only[Option.bind_some,V.aC,V.toInt_int,dC]
  rw[ai (by omega),wrap64 (by omega) (by omega)]
  refine (congrArg (fun o=>Option.bind o _) e1).trans ?_
  have hm:(ks.filter (fun k=> !(fP k))).length≤fi.length:=by rw[e3];exact uv _ _
  have t1:((((ks.filter (fun k=> !(fP k))).length:Nat):Int)≤((fi.map enc).length:Int)):=by rw[bw];omega
  simp only[Option.bind_some,un,cu,az,Int.toNat_natCast]
  rw[ah (by omega),ah t1,ah (by omega),ah (by simp only[cz,fS,uo,um];omega),Is _ _ _ hm,e2]
theorem ajm {ks:List Ex} (hlen:ks.length≤1000000): ∀(aH pre:List Ex),ks=pre++aH→(∀k∈pre,gB k=false)→
  (ks.any gB=false∧∃t,Loop (wv CC (ks.map enc) ((ks.map enc).length:Int)) ((pre.length:Nat):Int)=some (.inr t))∨
  (∃i:Nat,i<ks.length∧gB (ks.getD i bp)=true∧(∀k∈ks.take i,gB k=false)∧Loop (wv CC (ks.map enc) ((ks.map enc).length:Int)) ((pre.length:Nat):Int)=some (.inl (i:Int))):=by
 intro aH
 induction aH with
 | nil=>
  intro pre bq hp
  rw[dz] at bq
  subst bq
  refine .inl ⟨zl hp,⟨(((ks.length:Nat):Int),false),bj ?_⟩⟩
  ·simp only[wv,zo,bw,az]
   rw[ai (by omega),ct (by omega)]
 | cons k aH ih=>
  intro pre bq hp
  have cb:pre.length<ks.length:=by rw[bq];simp
  have cC:idx (ks.map enc) (pre.length:Int)=some k.enc:=by rw[bq];exact jD _ _ _
  cases hk:gB k with
  | true=>
   refine .inr ⟨pre.length,cb,by rw[bq];simpa using hk,by rw[bq];simpa using hp,bj ?_⟩
   simp only[wv,zo,bw,az]
   rw[ah (by omega),cC]
   simp only[Option.bind_some,bz,bA,bB]
   refine (congrArg (fun o=>Option.bind o _) (Ir k)).trans ?_
   simp only[Option.bind_some,V.aC,V.cN]
   rw[hk,cond_true]
  | false=>
   have bG:wv CC (ks.map enc) ((ks.map enc).length:Int) ((pre.length:Nat):Int)=some (.inl (((pre++[k]).length:Nat):Int)):=by
    simp only[wv,zo,bw,az]
    rw[ah (by omega),cC]
    simp only[Option.bind_some,bz,bA,bB]
    refine (congrArg (fun o=>Option.bind o _) (Ir k)).trans ?_
    simp only[Option.bind_some,V.aC,V.cN]
    rw[hk,cond_false,wrap64 (by omega) (by omega)]
    simp
   rw[bW bG]
   refine ih (pre++[k]) (by rw[bq];simp) fun x hx=> ?_
   rcases eM.1 hx with hx|hx
   ·exact hp x hx
   ·rw[ez.1 hx];exact hk
theorem ajn {ks:List Ex} (hlen:ks.length≤1000000):
  (ks.any gB=false∧CC Hn [.list aa (ks.map enc)]=some [.int .i64 (-1)])∨
  (∃i:Nat,i<ks.length∧gB (ks.getD i bp)=true∧(∀k∈ks.take i,gB k=false)∧CC Hn [.list aa (ks.map enc)]=some [.int .i64 (i:Int)]):=by
 rcases ajm hlen ks [] rfl (by simp) with ⟨h1,t,U⟩|⟨i,h1,U,h3,h4⟩
 ·refine .inl ⟨h1,WV ?_⟩
  unfold Ou
  refine (congrArg (fun o=>Option.bind o _) U).trans ?_
  rfl
 ·refine .inr ⟨i,h1,U,h3,WV ?_⟩
  unfold Ou
  refine (congrArg (fun o=>Option.bind o _) h4).trans ?_
  rfl
theorem ajo {ks:List Ex} (hn:ks.length≤1000000): ∀(d j i:Nat) (ss:List Ex),j+d=ks.length→i≤j→ss.length=ks.length→ss.take i=(ks.take j).filter (fun k=> !(gB k))→ss.drop j=ks.drop j→
  ∃t fi,Loop (wz CC) ((i:Int),(j:Int),ss.map enc)=some (((ks.filter (fun k=> !(gB k))).length:Int),(ks.length:Int),t,List.map enc fi)∧fi.take (ks.filter (fun k=> !(gB k))).length=ks.filter (fun k=> !(gB k))∧fi.length=ks.length:=by
 intro d
 induction d with
 | zero=>
  intro j i ss hj hi hl ht hd
  obtain rfl:j=ks.length:=by omega
  rw[qO] at ht
  have g9:i=(ks.filter (fun k=> !(gB k))).length:=by rw[←ht,fS];omega
  refine ⟨false,ss,bj ?_,by rw[←g9];exact ht,hl⟩
  simp only[wz,zp,un,bw,az]
  rw[ai (by omega),ct (by omega),g9]
 | succ d ih=>
  intro j i ss hj hi hl ht hd
  have cp:j<ks.length:=by omega
  have hg:=Du hl hd cp
  have jb:ss.drop (j+1)=ks.drop (j+1):=by rw[←pH,←pH,hd]
  have hx:(ss.map enc)[j]? =some (ks.getD j bp).enc:=by rw[pr (by omega),hg]
  have t1:((j:Nat):Int)<(ss.length:Int):=by omega
  have t2:(0:Int)≤((j:Nat):Int):=by omega
  have t3:((i:Nat):Int)<(ss.length:Int):=by omega
  have t4:(0:Int)≤((i:Nat):Int):=by omega
  have cC: ∃y,(ss.map enc)[i]? =some y:=⟨_,pr (by omega)⟩
  obtain ⟨y,hy⟩:=cC
  cases hk:gB (ks.getD j bp) with
  | true=>
   have bG:wz CC ((i:Int),(j:Int),ss.map enc)=some (.inl ((i:Int),((j+1:Nat):Int),ss.map enc)):=by
    simp only[wz,zp,un,bw,az,cu,t1,t2,cU,Int.toNat_natCast,hx,Option.bind_some,bz,bA,bB]
    refine (congrArg (fun o=>Option.bind o _) (Ir (ks.getD j bp))).trans ?_
    simp only[Option.bind_some,V.aC,V.cN]
    rw[hk,qQ,cond_false,wrap64 (by omega) (by omega)]
    rfl
   rw[bW bG]
   refine ih (j+1) i ss (by omega) (by omega) hl ?_ jb
   rw[lE cp,nw,ht,pI,hk]
   simp
  | false=>
   have bG:wz CC ((i:Int),(j:Int),ss.map enc)=some (.inl (((i+1:Nat):Int),((j+1:Nat):Int),(ss.set i (ks.getD j bp)).map enc)):=by
    simp only[wz,zp,un,bw,az,cu,t1,t2,t3,t4,cU,Int.toNat_natCast,hx,hy,Option.bind_some,bz,bA,bB]
    refine (congrArg (fun o=>Option.bind o _) (Ir (ks.getD j bp))).trans ?_
    simp only[Option.bind_some,V.aC,V.cN]
    rw[hk,ur,cond_true,wrap64 (by omega) (by omega),wrap64 (by omega) (by omega),←eY,Al]
    rfl
   rw[bW bG]
   refine ih (j+1) (i+1) (ss.set i (ks.getD j bp)) (by omega) (by omega) (by simpa using hl) ?_ ?_
   ·rw[lE (by rw[nq];omega),ES (bU i),ht,lE cp,nw,pI,hk]
    simp[show i<ss.length by omega]
   ·rw[ET (by omega),jb]
theorem ajp {ks:List Ex} (hn:ks.length≤1000000): ∃b,CC Hm [.list aa (ks.map enc)]=some [.bool b,.list aa ((ks.filter (fun k=> !(gB k))).map enc)]:=by
 rcases ajn hn with ⟨h1,U⟩|⟨i,h1,U,h3,h4⟩
 ·refine ⟨true,WY ?_⟩
  unfold Ov
  refine (congrArg (fun o=>Option.bind o _) U).trans ?_
  rw[oI.2 fun k hk=>show (!(gB k))=true by rw[any_false (p:=gB) (by rw[h1];simp) k hk];rfl]
  rfl
 ·have hf:(ks.take (i+1)).filter (fun k=> !(gB k))=ks.take i:=by
   rw[lE h1,nw,pI,U,oI.2 fun k hk=>show (!(gB k))=true by rw[h3 k hk];rfl]
   simp
  obtain ⟨t,fi,e1,e2,e3⟩:=ajo hn (ks.length-(i+1)) (i+1) i ks (by omega) (by omega) rfl hf.symm rfl
  refine ⟨false,WY ?_⟩
  unfold Ov
  refine (congrArg (fun o=>Option.bind o _) h4).trans ?_
  simp only[Option.bind_some,V.aC,V.toInt_int,dC]
  rw[ai (by omega),wrap64 (by omega) (by omega)]
  refine (congrArg (fun o=>Option.bind o _) e1).trans ?_
  have hm:(ks.filter (fun k=> !(gB k))).length≤fi.length:=by rw[e3];exact uv _ _
  have t1:((((ks.filter (fun k=> !(gB k))).length:Nat):Int)≤((fi.map enc).length:Int)):=by rw[bw];omega
  simp only[Option.bind_some,un,cu,az,Int.toNat_natCast]
  rw[ah (by omega),ah t1,ah (by omega),ah (by simp only[cz,fS,uo,um];omega),Is _ _ _ hm,e2]
theorem ajq {ks:List Ex} (hlen:ks.length≤1000000): ∀(aH pre:List Ex),ks=pre++aH→(∀k∈pre,univ k=false)→
  (ks.any univ=false∧∃t,Loop (wA CC (ks.map enc) ((ks.map enc).length:Int)) ((pre.length:Nat):Int)=some (.inr t))∨
  (∃i:Nat,i<ks.length∧univ (ks.getD i bp)=true∧(∀k∈ks.take i,univ k=false)∧Loop (wA CC (ks.map enc) ((ks.map enc).length:Int)) ((pre.length:Nat):Int)=some (.inl (i:Int))):=by
 intro aH
 induction aH with
 | nil=>
  intro pre bq hp
  rw[dz] at bq
  subst bq
  refine .inl ⟨zl hp,⟨(((ks.length:Nat):Int),false),bj ?_⟩⟩
  ·simp only[wA,zq,bw,az]
   rw[ai (by omega),ct (by omega)]
 | cons k aH ih=>
  intro pre bq hp
  have cb:pre.length<ks.length:=by rw[bq];simp
  have cC:idx (ks.map enc) (pre.length:Int)=some k.enc:=by rw[bq];exact jD _ _ _
  cases hk:univ k with
  | true=>
   refine .inr ⟨pre.length,cb,by rw[bq];simpa using hk,by rw[bq];simpa using hp,bj ?_⟩
   simp only[wA,zq,bw,az]
   rw[ah (by omega),cC]
   simp only[Option.bind_some,bz,bA,bB]
   refine (congrArg (fun o=>Option.bind o _) (Dt k)).trans ?_
   simp only[Option.bind_some,V.aC,V.cN]
   rw[hk,cond_true]
  | false=>
   have bG:wA CC (ks.map enc) ((ks.map enc).length:Int) ((pre.length:Nat):Int)=some (.inl (((pre++[k]).length:Nat):Int)):=by
    simp only[wA,zq,bw,az]
    rw[ah (by omega),cC]
    simp only[Option.bind_some,bz,bA,bB]
    refine (congrArg (fun o=>Option.bind o _) (Dt k)).trans ?_
    simp only[Option.bind_some,V.aC,V.cN]
    rw[hk,cond_false,wrap64 (by omega) (by omega)]
    simp
   rw[bW bG]
   refine ih (pre++[k]) (by rw[bq];simp) fun x hx=> ?_
   rcases eM.1 hx with hx|hx
   ·exact hp x hx
   ·rw[ez.1 hx];exact hk
theorem W9 {ks:List Ex} (hlen:ks.length≤1000000):
  (ks.any univ=false∧CC BW [.list aa (ks.map enc)]=some [.int .i64 (-1)])∨
  (∃i:Nat,i<ks.length∧univ (ks.getD i bp)=true∧(∀k∈ks.take i,univ k=false)∧CC BW [.list aa (ks.map enc)]=some [.int .i64 (i:Int)]):=by
 rcases ajq hlen ks [] rfl (by simp) with ⟨h1,t,U⟩|⟨i,h1,U,h3,h4⟩
 ·refine .inl ⟨h1,W3 ?_⟩
  unfold Ow
  refine (congrArg (fun o=>Option.bind o _) U).trans ?_
  rfl
 ·refine .inr ⟨i,h1,U,h3,W3 ?_⟩
  unfold Ow
  refine (congrArg (fun o=>Option.bind o _) h4).trans ?_
  rfl
theorem ajr {ks:List Ex} (hlen:ks.length≤1000000):CC LJ [.list aa (ks.map enc)]=some [.bool (ks.any univ)]:=by
 refine ajf ?_
 unfold W4
 rcases W9 hlen with ⟨h1,U⟩|⟨i,h1,U,h3,h4⟩
 ·refine (congrArg (fun o=>Option.bind o _) U).trans ?_
  rw[h1];rfl
 ·refine (congrArg (fun o=>Option.bind o _) h4).trans ?_
  rw[kf.2 ⟨_,by rw[show ks.getD i bp=ks[i] by simp[h1]];exact List.getElem_mem h1,U⟩]
  simp
theorem ajs {ks:List Ex} (hn:ks.length≤1000000): ∀(d j i:Nat) (ss:List Ex),j+d=ks.length→i≤j→ss.length=ks.length→ss.take i=(ks.take j).filter (fun k=> !(univ k))→ss.drop j=ks.drop j→
  ∃t fi,Loop (wB CC) ((i:Int),(j:Int),ss.map enc)=some (((ks.filter (fun k=> !(univ k))).length:Int),(ks.length:Int),t,List.map enc fi)∧fi.take (ks.filter (fun k=> !(univ k))).length=ks.filter (fun k=> !(univ k))∧fi.length=ks.length:=by
 intro d
 induction d with
 | zero=>
  intro j i ss hj hi hl ht hd
  obtain rfl:j=ks.length:=by omega
  rw[qO] at ht
  have g9:i=(ks.filter (fun k=> !(univ k))).length:=by rw[←ht,fS];omega
  refine ⟨false,ss,bj ?_,by rw[←g9];exact ht,hl⟩
  simp only[wB,zr,un,bw,az]
  rw[ai (by omega),ct (by omega),g9]
 | succ d ih=>
  intro j i ss hj hi hl ht hd
  have cp:j<ks.length:=by omega
  have hg:=Du hl hd cp
  have jb:ss.drop (j+1)=ks.drop (j+1):=by rw[←pH,←pH,hd]
  have hx:(ss.map enc)[j]? =some (ks.getD j bp).enc:=by rw[pr (by omega),hg]
  have t1:((j:Nat):Int)<(ss.length:Int):=by omega
  have t2:(0:Int)≤((j:Nat):Int):=by omega
  have t3:((i:Nat):Int)<(ss.length:Int):=by omega
  have t4:(0:Int)≤((i:Nat):Int):=by omega
  have cC: ∃y,(ss.map enc)[i]? =some y:=⟨_,pr (by omega)⟩
  obtain ⟨y,hy⟩:=cC
  cases hk:univ (ks.getD j bp) with
  | true=>
   have bG:wB CC ((i:Int),(j:Int),ss.map enc)=some (.inl ((i:Int),((j+1:Nat):Int),ss.map enc)):=by
    simp only[wB,zr,un,bw,az,cu,t1,t2,cU,Int.toNat_natCast,hx,Option.bind_some,bz,bA,bB]
    refine (congrArg (fun o=>Option.bind o _) (Dt (ks.getD j bp))).trans ?_
    simp only[Option.bind_some,V.aC,V.cN]
    rw[hk,qQ,cond_false,wrap64 (by omega) (by omega)]
    rfl
   rw[bW bG]
   refine ih (j+1) i ss (by omega) (by omega) hl ?_ jb
   rw[lE cp,nw,ht,pI,hk]
   simp
  | false=>
   have bG:wB CC ((i:Int),(j:Int),ss.map enc)=some (.inl (((i+1:Nat):Int),((j+1:Nat):Int),(ss.set i (ks.getD j bp)).map enc)):=by
    simp only[wB,zr,un,bw,az,cu,t1,t2,t3,t4,cU,Int.toNat_natCast,hx,hy,Option.bind_some,bz,bA,bB]
    refine (congrArg (fun o=>Option.bind o _) (Dt (ks.getD j bp))).trans ?_
    simp only[Option.bind_some,V.aC,V.cN]
    rw[hk,ur,cond_true,wrap64 (by omega) (by omega),wrap64 (by omega) (by omega),←eY,Al]
    rfl
   rw[bW bG]
   refine ih (j+1) (i+1) (ss.set i (ks.getD j bp)) (by omega) (by omega) (by simpa using hl) ?_ ?_
   ·rw[lE (by rw[nq];omega),ES (bU i),ht,lE cp,nw,pI,hk]
    simp[show i<ss.length by omega]
   ·rw[ET (by omega),jb]
theorem ajt {ks:List Ex} (hn:ks.length≤1000000): ∃b,CC yE [.list aa (ks.map enc)]=some [.bool b,.list aa ((ks.filter (fun k=> !(univ k))).map enc)]:=by
 rcases W9 hn with ⟨h1,U⟩|⟨i,h1,U,h3,h4⟩
 ·refine ⟨true,W7 ?_⟩
  unfold Ox
  refine (congrArg (fun o=>Option.bind o _) U).trans ?_
  rw[oI.2 fun k hk=>show (!(univ k))=true by rw[any_false (p:=univ) (by rw[h1];simp) k hk];rfl]
  rfl
 ·have hf:(ks.take (i+1)).filter (fun k=> !(univ k))=ks.take i:=by
   rw[lE h1,nw,pI,U,oI.2 fun k hk=>show (!(univ k))=true by rw[h3 k hk];rfl]
   simp
  obtain ⟨t,fi,e1,e2,e3⟩:=ajs hn (ks.length-(i+1)) (i+1) i ks (by omega) (by omega) rfl hf.symm rfl
  refine ⟨false,W7 ?_⟩
  unfold Ox
  refine (congrArg (fun o=>Option.bind o _) h4).trans ?_
  simp only[Option.bind_some,V.aC,V.toInt_int,dC]
  rw[ai (by omega),wrap64 (by omega) (by omega)]
  refine (congrArg (fun o=>Option.bind o _) e1).trans ?_
  have hm:(ks.filter (fun k=> !(univ k))).length≤fi.length:=by rw[e3];exact uv _ _
  have t1:((((ks.filter (fun k=> !(univ k))).length:Nat):Int)≤((fi.map enc).length:Int)):=by rw[bw];omega
  simp only[Option.bind_some,un,cu,az,Int.toNat_natCast]
  rw[ah (by omega),ah t1,ah (by omega),ah (by simp only[cz,fS,uo,um];omega),Is _ _ _ hm,e2]
end Go.AM
set_option maxRecDepth 100000
namespace Go.AM
open Go.Proofs Go.Sort
section
variable {α:Type} {enc:α→V}
def qD (enc:α→V) (d:Array α):List V:=d.toList.map enc
theorem gh (d:Array α):(qD enc d).length=d.size:=by simp[qD]
theorem gi (d:Array α) (i:Nat) (x:α):(qD enc d).set i (enc x)=qD enc (d.setIfInBounds i x):=by
 unfold qD;rw[Array.toList_setIfInBounds,Al]
variable [Inhabited α]
theorem gj {d:Array α} {i:Nat} (h:i<d.size):(qD enc d)[i]? =some (enc d[i]!):=by
 unfold qD;rw[gC,sG,kX h,getElem!_pos d i h];rfl
theorem iP {d:Array α} {i j:Nat} {x:α} (h:i<d.size):(qD enc (d.setIfInBounds j x))[i]? =some (enc (d.setIfInBounds j x)[i]!):=gj (by rw[gR];exact h)
theorem gk (a b:Nat):(a:Int)+(b:Int)=((a+b:Nat):Int):=(Int.natCast_add a b).symm
theorem dU (a:Nat):(a:Int)+1=((a+1:Nat):Int):=rfl
theorem wC (a:Nat):((a+1:Nat):Int)-1=(a:Int):=by omega
theorem Dw (a:Nat):(a:Int)*2=((a*2:Nat):Int):=by omega
theorem ng {a b:Nat} (h:b≤a):(a:Int)-(b:Int)=((a-b:Nat):Int):=by omega
theorem kP {a:Nat} (h:1≤a):(a:Int)-1=((a-1:Nat):Int):=by omega
theorem divC (a b:Nat):Int.tdiv (a:Int) (b:Int)=((a/b:Nat):Int):=by rw[Int.tdiv_eq_ediv_of_nonneg (by omega)];rfl
theorem oo {p:Prop} [Decidable p] (h:p):decide p=true:=eC h
theorem tS {p:Prop} [Decidable p] (h: ¬p):decide p=false:=ct h
variable {lt:α→α→Bool}
theorem Xa (a j:Nat) (d:Array α):insInner lt a (j+1) d=if j+1>a&&lt d[j+1]! d[j]! then insInner lt a j (swp d (j+1) j) else d:=rfl
theorem Oy {a:Nat}: ∀(j:Nat) (d:Array α),(insInner lt a j d).size=d.size
 | 0,d=>rfl
 | j+1,d=>by
  rw[Xa]
  split
  ·rw[Oy j,size_swp]
  ·rfl
theorem Dx (hi first:Nat): ∀(n root:Nat) (d:Array α),hi-root≤n→(siftDown lt hi first root d).size=d.size:=by
 intro n
 induction n with
 | zero=>intro root d h;rw[siftDown,sD (by omega)]
 | succ n ih=>
  intro root d h
  rw[siftDown]
  split
  ·rfl
  ·split
   ·split
    ·rfl
    ·split
     ·rw[ih _ _ (by omega),size_swp]
     ·rfl
   ·split
    ·rfl
    ·rw[ih _ _ (by omega),size_swp]
theorem Oz (hi first:Nat): ∀(k:Nat) (d:Array α),(heapBuild lt hi first k d).size=d.size
 | 0,d=>rfl
 | k+1,d=>by rw[heapBuild,Oz,Dx _ _ _ _ _ (bU _)]
end
end Go.AM
set_option maxRecDepth 100000
namespace Go.AM.SX
open Go.Proofs Ex
structure XE where
 e:Ex
 ok:e.Ok
instance:Inhabited XE:=⟨⟨.node 0 0 [],.node (by omega) (by omega) (by simp) (by simp)⟩⟩
namespace XE
def enc (x:XE):V:=x.e.enc
theorem bz (x:XE):(x.enc.cell 0).toInt=x.e.op:=Go.AM.bz x.e
theorem bA (x:XE):(x.enc.cell 1).toInt=x.e.letter:=Go.AM.bA x.e
theorem bB (x:XE):(x.enc.cell 2).toList=x.e.kids.map Ex.enc:=Go.AM.bB x.e
theorem re (x:XE):V.agg [.int .i64 x.e.op,.int .i64 x.e.letter,.list aa (x.e.kids.map Ex.enc)]=x.enc:=(Ex.eY x.e).symm
end XE
def b9 (a b:XE):Int:=cmp a.e b.e
theorem gN (a b:XE):CC bn [.int .i64 a.e.op,.int .i64 a.e.letter,.list aa (a.e.kids.map Ex.enc),.int .i64 b.e.op,.int .i64 b.e.letter,.list aa (b.e.kids.map Ex.enc)]=some [.int .i64 (b9 a b)]:=
 Wp a.e a.ok b.e b.ok
def XE.lt (a b:XE):Prop:=b9 a b<0
theorem XE.lt_irrefl (a:XE): ¬a.lt a:=by unfold XE.lt b9;rw[Dj];omega
theorem aju {a b c:Ex} (h1:cmp a b<0) (U:cmp b c<0):cmp a c<0:=by
 have h3:=N9 a b c (by omega) (by omega)
 refine Decidable.byContradiction fun h=> ?_
 have h0:cmp a c=0:=by omega
 have:=wj a c h0
 subst this
 have:=tN a b
 omega
theorem XE.lt_trans {a b c:XE} (h1:a.lt b) (U:b.lt c):a.lt c:=aju h1 U
theorem XE.ajv {a b c:XE} (h1: ¬a.lt b) (U: ¬b.lt c): ¬a.lt c:=by
 unfold XE.lt b9 at*
 have a1:=tN a.e b.e
 have a2:=tN b.e c.e
 have a3:=tN a.e c.e
 have:=N9 c.e b.e a.e (by omega) (by omega)
 omega
end Go.AM.SX
set_option maxRecDepth 100000
namespace Go.AM
open Go.Proofs
noncomputable abbrev It:Code:=cj Tryz.prog (av.aQ 93)
noncomputable def zt (C:ae) (a b' i j:Int) (ak:List V) {β:Type} (kn:(Int × (List V))→Option β) (kr:(Int × Bool × (List V))→Option β):Option β:=
 bif decide ((j:Int)>a) then
  bif (decide (0≤j))&&(decide (j<(ak.length:Int))) then
  (ak[(j:Int).toNat]?).bind fun x1=>
  bif (decide (0≤(IntKind.wrap .i64 (j-1))))&&(decide ((IntKind.wrap .i64 (j-1))<(ak.length:Int))) then
   (ak[(IntKind.wrap .i64 (j-1):Int).toNat]?).bind fun x2=>
   (C bn [.int .i64 ((x1.cell 0).toInt),.int .i64 ((x1.cell 1).toInt),.list aa ((x1.cell 2).toList),.int .i64 ((x2.cell 0).toInt),.int .i64 ((x2.cell 1).toInt),.list aa ((x2.cell 2).toList)]).bind fun r3=>
   bif decide ((((V.nth r3 0).toInt):Int)<0) then
   bif (decide (0≤(IntKind.wrap .i64 (j-1))))&&(decide ((IntKind.wrap .i64 (j-1))<(ak.length:Int))) then
    (ak[(IntKind.wrap .i64 (j-1):Int).toNat]?).bind fun x4=>
    bif (decide (0≤j))&&(decide (j<(ak.length:Int))) then
    (ak[(j:Int).toNat]?).bind fun x5=>
    bif (decide (0≤j))&&(decide (j<(ak.length:Int))) then
     (ak[(j:Int).toNat]?).bind fun x6=>
     bif (decide (0≤(IntKind.wrap .i64 (j-1))))&&(decide ((IntKind.wrap .i64 (j-1))<((ak.set ((j:Int).toNat) (.agg [.int .i64 ((x4.cell 0).toInt),.int .i64 ((x4.cell 1).toInt),.list aa ((x4.cell 2).toList)])).length:Int))) then
     ((ak.set ((j:Int).toNat) (.agg [.int .i64 ((x4.cell 0).toInt),.int .i64 ((x4.cell 1).toInt),.list aa ((x4.cell 2).toList)]))[(IntKind.wrap .i64 (j-1):Int).toNat]?).bind fun x7=>
     kn (IntKind.wrap .i64 (j-1),(ak.set ((j:Int).toNat) (.agg [.int .i64 ((x4.cell 0).toInt),.int .i64 ((x4.cell 1).toInt),.list aa ((x4.cell 2).toList)])).set ((IntKind.wrap .i64 (j-1):Int).toNat) (.agg [.int .i64 ((x5.cell 0).toInt),.int .i64 ((x5.cell 1).toInt),.list aa ((x5.cell 2).toList)]))
     else none
    else none
    else none
   else none
   else
   kr (j,decide ((((V.nth r3 0).toInt):Int)<0),ak)
  else none
  else none
 else
  kr (j,false,ak)
noncomputable def zu (C:ae) (a b' i:Int):(Int × (List V))→Option ((Int × (List V)) ⊕ (Int × Bool × (List V))):=un fun j ak=>zt C a b' i j ak (fun y=>some (.inl y)) (fun r=>some (.inr r))
noncomputable def Dy (C:ae) (a b' i:Int) (ak:List V) {β:Type} (kn:(Int × (List V))→Option β) (kr:(Int × Bool × (List V))→Option β):Option β:=
 bif decide ((i:Int)<b') then
  (Loop (zu C a b' i) (i,ak)).bind (un fun (j_8:Int)=>un fun (oe:Bool) (pt:List V)=>
   kn (IntKind.wrap .i64 (i+1),pt))
 else
  kr (i,decide ((i:Int)<b'),ak)
noncomputable def Iu (C:ae) (a b':Int):(Int × (List V))→Option ((Int × (List V)) ⊕ (Int × Bool × (List V))):=un fun i ak=>Dy C a b' i ak (fun y=>some (.inl y)) (fun r=>some (.inr r))
noncomputable def Xb (C:ae):b8:=fun β n ds k=>
 bif Nat.beq n 65 then bM MH [false,false,false,true,true] [[1,2,3,0,0,0]] (@zt C) ds k else
 bif Nat.beq n 17 then bM MI [false,false,true,true] [[1,2,0,0,0]] (@Dy C) ds k else
 none
abbrev Xc (C:ae) (b:bZ):Prop:=b6 Tryz.prog av C (Xb C) 93 (cl Tryz.prog (av.aQ 93)) (av.sin 93).bc.length b
theorem ajw (C:ae):Xc C (.loop (ax [1,0,0,1,0,0,1,0,0] It)):=
 bP MH [false,false,false,true,true] [[1,2,3,0,0,0]] (@zt C) (by kernel_rfl) (a9 (bs:=[]) (by kernel_rfl) aw) (fun ds=>by kernel_rfl) (fun i x=>by kernel_rfl) (fun i x β k=>by kernel_rfl) (fun β ds k=>by kernel_rfl)
theorem ajx (C:ae):Xc C (.loop (ax [1,0,0] It)):=
 bP MI [false,false,true,true] [[1,2,0,0,0]] (@Dy C) (by kernel_rfl) (a9 (bs:=[.loop (ax [1,0,0,1,0,0,1,0,0] It)]) (by kernel_rfl) (br (ajw C) aw)) (fun ds=>by kernel_rfl) (fun i x=>by kernel_rfl) (fun i x β k=>by kernel_rfl) (fun β ds k=>by kernel_rfl)
noncomputable def Xd (C:ae) (a b':Int) (ak:List V):Option (List V):=
 (Loop (Iu C a b') (IntKind.wrap .i64 (a+1),ak)).bind (un fun (apb:Int)=>un fun (Ce:Bool) (OA:List V)=>
  some [.list aa OA])
theorem ajy {a b':Int} {ak:List V} {r:Option (List V)} (h:Xd CC a b' ak=r):CC BP [.int .i64 a,.int .i64 b',.list aa ak]=r:=
 aZ (key:=93) (L:=Xb CC) (bs:=[.loop (ax [1,0,0] It)]) (by kernel_rfl) (br (ajx CC) aw) (aX (by kernel_rfl) h)
noncomputable abbrev zw:Code:=cj Tryz.prog (av.aQ 104)
noncomputable def wD (C:ae) (hi first root child:Int) (t40:Bool) (ak:List V) {β:Type} (kr:(Int)→Option β):Option β:=
 bif t40 then
  kr (IntKind.wrap .i64 (child+1))
 else
  kr child
noncomputable def tT (C:ae) (hi first root:Int) (ak:List V) {β:Type} (kn:(Int × (List V))→Option β) (kr:((Int × Int × Bool × (List V)) ⊕ (Int × Int × Bool × (List V)))→Option β):Option β:=
 bif decide (((IntKind.wrap .i64 ((IntKind.wrap .i64 (root*2))+1)):Int)≥hi) then
  kr (.inl (root,IntKind.wrap .i64 ((IntKind.wrap .i64 (root*2))+1),decide (((IntKind.wrap .i64 ((IntKind.wrap .i64 (root*2))+1)):Int)≥hi),ak))
 else
  bif decide (((IntKind.wrap .i64 ((IntKind.wrap .i64 ((IntKind.wrap .i64 (root*2))+1))+1)):Int)<hi) then
  bif (decide (0≤(IntKind.wrap .i64 (first+(IntKind.wrap .i64 ((IntKind.wrap .i64 (root*2))+1))))))&&(decide ((IntKind.wrap .i64 (first+(IntKind.wrap .i64 ((IntKind.wrap .i64 (root*2))+1))))<(ak.length:Int))) then
   (ak[(IntKind.wrap .i64 (first+(IntKind.wrap .i64 ((IntKind.wrap .i64 (root*2))+1))):Int).toNat]?).bind fun x1=>
   bif (decide (0≤(IntKind.wrap .i64 ((IntKind.wrap .i64 (first+(IntKind.wrap .i64 ((IntKind.wrap .i64 (root*2))+1))))+1))))&&(decide ((IntKind.wrap .i64 ((IntKind.wrap .i64 (first+(IntKind.wrap .i64 ((IntKind.wrap .i64 (root*2))+1))))+1))<(ak.length:Int))) then
   (ak[(IntKind.wrap .i64 ((IntKind.wrap .i64 (first+(IntKind.wrap .i64 ((IntKind.wrap .i64 (root*2))+1))))+1):Int).toNat]?).bind fun x2=>
   (C bn [.int .i64 ((x1.cell 0).toInt),.int .i64 ((x1.cell 1).toInt),.list aa ((x1.cell 2).toList),.int .i64 ((x2.cell 0).toInt),.int .i64 ((x2.cell 1).toInt),.list aa ((x2.cell 2).toList)]).bind fun r3=>
   wD C hi first root (IntKind.wrap .i64 ((IntKind.wrap .i64 (root*2))+1)) (decide ((((V.nth r3 0).toInt):Int)<0)) ak (fun (oq:Int)=>
    bif (decide (0≤(IntKind.wrap .i64 (first+root))))&&(decide ((IntKind.wrap .i64 (first+root))<(ak.length:Int))) then
     (ak[(IntKind.wrap .i64 (first+root):Int).toNat]?).bind fun x5=>
     bif (decide (0≤(IntKind.wrap .i64 (first+oq))))&&(decide ((IntKind.wrap .i64 (first+oq))<(ak.length:Int))) then
     (ak[(IntKind.wrap .i64 (first+oq):Int).toNat]?).bind fun x6=>
     (C bn [.int .i64 ((x5.cell 0).toInt),.int .i64 ((x5.cell 1).toInt),.list aa ((x5.cell 2).toList),.int .i64 ((x6.cell 0).toInt),.int .i64 ((x6.cell 1).toInt),.list aa ((x6.cell 2).toList)]).bind fun r7=>
     bif !(decide ((((V.nth r7 0).toInt):Int)<0)) then
      kr (.inr (root,oq,!(decide ((((V.nth r7 0).toInt):Int)<0)),ak))
     else
      bif (decide (0≤(IntKind.wrap .i64 (first+oq))))&&(decide ((IntKind.wrap .i64 (first+oq))<(ak.length:Int))) then
      (ak[(IntKind.wrap .i64 (first+oq):Int).toNat]?).bind fun x8=>
      bif (decide (0≤(IntKind.wrap .i64 (first+root))))&&(decide ((IntKind.wrap .i64 (first+root))<(ak.length:Int))) then
       (ak[(IntKind.wrap .i64 (first+root):Int).toNat]?).bind fun x9=>
       bif (decide (0≤(IntKind.wrap .i64 (first+root))))&&(decide ((IntKind.wrap .i64 (first+root))<(ak.length:Int))) then
       (ak[(IntKind.wrap .i64 (first+root):Int).toNat]?).bind fun ic=>
       bif (decide (0≤(IntKind.wrap .i64 (first+oq))))&&(decide ((IntKind.wrap .i64 (first+oq))<((ak.set ((IntKind.wrap .i64 (first+root):Int).toNat) (.agg [.int .i64 ((x8.cell 0).toInt),.int .i64 ((x8.cell 1).toInt),.list aa ((x8.cell 2).toList)])).length:Int))) then
        ((ak.set ((IntKind.wrap .i64 (first+root):Int).toNat) (.agg [.int .i64 ((x8.cell 0).toInt),.int .i64 ((x8.cell 1).toInt),.list aa ((x8.cell 2).toList)]))[(IntKind.wrap .i64 (first+oq):Int).toNat]?).bind fun ew=>
        kn (oq,(ak.set ((IntKind.wrap .i64 (first+root):Int).toNat) (.agg [.int .i64 ((x8.cell 0).toInt),.int .i64 ((x8.cell 1).toInt),.list aa ((x8.cell 2).toList)])).set ((IntKind.wrap .i64 (first+oq):Int).toNat) (.agg [.int .i64 ((x9.cell 0).toInt),.int .i64 ((x9.cell 1).toInt),.list aa ((x9.cell 2).toList)]))
       else none
       else none
      else none
      else none
     else none
    else none)
   else none
  else none
  else
  wD C hi first root (IntKind.wrap .i64 ((IntKind.wrap .i64 (root*2))+1)) false ak (fun (ot:Int)=>
   bif (decide (0≤(IntKind.wrap .i64 (first+root))))&&(decide ((IntKind.wrap .i64 (first+root))<(ak.length:Int))) then
    (ak[(IntKind.wrap .i64 (first+root):Int).toNat]?).bind fun iK=>
    bif (decide (0≤(IntKind.wrap .i64 (first+ot))))&&(decide ((IntKind.wrap .i64 (first+ot))<(ak.length:Int))) then
    (ak[(IntKind.wrap .i64 (first+ot):Int).toNat]?).bind fun ml=>
    (C bn [.int .i64 ((iK.cell 0).toInt),.int .i64 ((iK.cell 1).toInt),.list aa ((iK.cell 2).toList),.int .i64 ((ml.cell 0).toInt),.int .i64 ((ml.cell 1).toInt),.list aa ((ml.cell 2).toList)]).bind fun ou=>
    bif !(decide ((((V.nth ou 0).toInt):Int)<0)) then
     kr (.inr (root,ot,!(decide ((((V.nth ou 0).toInt):Int)<0)),ak))
    else
     bif (decide (0≤(IntKind.wrap .i64 (first+ot))))&&(decide ((IntKind.wrap .i64 (first+ot))<(ak.length:Int))) then
     (ak[(IntKind.wrap .i64 (first+ot):Int).toNat]?).bind fun gd=>
     bif (decide (0≤(IntKind.wrap .i64 (first+root))))&&(decide ((IntKind.wrap .i64 (first+root))<(ak.length:Int))) then
      (ak[(IntKind.wrap .i64 (first+root):Int).toNat]?).bind fun po=>
      bif (decide (0≤(IntKind.wrap .i64 (first+root))))&&(decide ((IntKind.wrap .i64 (first+root))<(ak.length:Int))) then
      (ak[(IntKind.wrap .i64 (first+root):Int).toNat]?).bind fun wa=>
      bif (decide (0≤(IntKind.wrap .i64 (first+ot))))&&(decide ((IntKind.wrap .i64 (first+ot))<((ak.set ((IntKind.wrap .i64 (first+root):Int).toNat) (.agg [.int .i64 ((gd.cell 0).toInt),.int .i64 ((gd.cell 1).toInt),.list aa ((gd.cell 2).toList)])).length:Int))) then
       ((ak.set ((IntKind.wrap .i64 (first+root):Int).toNat) (.agg [.int .i64 ((gd.cell 0).toInt),.int .i64 ((gd.cell 1).toInt),.list aa ((gd.cell 2).toList)]))[(IntKind.wrap .i64 (first+ot):Int).toNat]?).bind fun oh=>
       kn (ot,(ak.set ((IntKind.wrap .i64 (first+root):Int).toNat) (.agg [.int .i64 ((gd.cell 0).toInt),.int .i64 ((gd.cell 1).toInt),.list aa ((gd.cell 2).toList)])).set ((IntKind.wrap .i64 (first+ot):Int).toNat) (.agg [.int .i64 ((po.cell 0).toInt),.int .i64 ((po.cell 1).toInt),.list aa ((po.cell 2).toList)]))
      else none
      else none
     else none
     else none
    else none
   else none)
noncomputable def pw (C:ae) (hi first:Int):(Int × (List V))→Option ((Int × (List V)) ⊕ ((Int × Int × Bool × (List V)) ⊕ (Int × Int × Bool × (List V)))):=un fun root ak=>tT C hi first root ak (fun y=>some (.inl y)) (fun r=>some (.inr r))
noncomputable def Xe (C:ae):b8:=fun β n ds k=>
 bif Nat.beq n 655 then iH M6 [[1,2,3,0,6]] (@wD C) ds k else
 bif Nat.beq n 17 then bM M7 [false,false,true,true] [[1,2,0,0,0,0],[1,2,0,0,0,0]] (@tT C) ds k else
 none
abbrev Xf (C:ae) (b:bZ):Prop:=b6 Tryz.prog av C (Xe C) 104 (cl Tryz.prog (av.aQ 104)) (av.sin 104).bc.length b
theorem ajz (C:ae):Xf C (.cond 40 (ax [1,0,0,0,1,1,0,1,0] zw) (ax [1,0,0,0,1,1,0,1,1] zw)):=
 jn M6 [[1,2,3,0,6]] (@wD C) (by kernel_rfl) (a9 (bs:=[]) (by kernel_rfl) aw) (a9 (bs:=[]) (by kernel_rfl) aw) (fun ds=>by kernel_rfl) (fun i β k=>by kernel_rfl) (fun β ds k=>by kernel_rfl)
theorem ajA (C:ae):Xf C (.loop (ax [1,0,0] zw)):=
 bP M7 [false,false,true,true] [[1,2,0,0,0,0],[1,2,0,0,0,0]] (@tT C) (by kernel_rfl) (a9 (bs:=[.cond 40 (ax [1,0,0,0,1,1,0,1,0] zw) (ax [1,0,0,0,1,1,0,1,1] zw)]) (by kernel_rfl) (br (ajz C) aw)) (fun ds=>by kernel_rfl) (fun i x=>by kernel_rfl) (fun i x β k=>by kernel_rfl) (fun β ds k=>by kernel_rfl)
noncomputable def Xg (C:ae) (lo hi first:Int) (ak:List V):Option (List V):=
 (Loop (pw C hi first) (lo,ak)).bind (cB (un fun (apc:Int)=>un fun (apd:Int)=>un fun (Nw:Bool) (ajB:List V)=>
  some [.list aa ajB]) (un fun (ape:Int)=>un fun (apf:Int)=>un fun (Nx:Bool) (sj:List V)=>
  some [.list aa sj]))
theorem ajC {lo hi first:Int} {ak:List V} {r:Option (List V)} (h:Xg CC lo hi first ak=r):CC BU [.int .i64 lo,.int .i64 hi,.int .i64 first,.list aa ak]=r:=
 aZ (key:=104) (L:=Xe CC) (bs:=[.loop (ax [1,0,0] zw)]) (by kernel_rfl) (br (ajA CC) aw) (aX (by kernel_rfl) h)
noncomputable abbrev Iv:Code:=cj Tryz.prog (av.aQ 94)
noncomputable def Dz (C:ae) (first lo hi i:Int) (ak:List V) {β:Type} (kn:(Int × (List V))→Option β) (kr:(Int × Bool × (List V))→Option β):Option β:=
 bif decide ((i:Int)≥0) then
  (C BU [.int .i64 i,.int .i64 hi,.int .i64 first,.list aa ak]).bind fun r1=>
  kn (IntKind.wrap .i64 (i-1),(V.nth r1 0).toList)
 else
  kr (i,decide ((i:Int)≥0),ak)
noncomputable def Iw (C:ae) (first lo hi:Int):(Int × (List V))→Option ((Int × (List V)) ⊕ (Int × Bool × (List V))):=un fun i ak=>Dz C first lo hi i ak (fun y=>some (.inl y)) (fun r=>some (.inr r))
noncomputable def DA (C:ae) (first lo i:Int) (ak:List V) {β:Type} (kn:(Int × (List V))→Option β) (kr:(Int × Bool × (List V))→Option β):Option β:=
 bif decide ((i:Int)≥0) then
  bif (decide (0≤(IntKind.wrap .i64 (first+i))))&&(decide ((IntKind.wrap .i64 (first+i))<(ak.length:Int))) then
  (ak[(IntKind.wrap .i64 (first+i):Int).toNat]?).bind fun x5=>
  bif (decide (0≤first))&&(decide (first<(ak.length:Int))) then
   (ak[(first:Int).toNat]?).bind fun x6=>
   bif (decide (0≤first))&&(decide (first<(ak.length:Int))) then
   (ak[(first:Int).toNat]?).bind fun x7=>
   bif (decide (0≤(IntKind.wrap .i64 (first+i))))&&(decide ((IntKind.wrap .i64 (first+i))<((ak.set ((first:Int).toNat) (.agg [.int .i64 ((x5.cell 0).toInt),.int .i64 ((x5.cell 1).toInt),.list aa ((x5.cell 2).toList)])).length:Int))) then
    ((ak.set ((first:Int).toNat) (.agg [.int .i64 ((x5.cell 0).toInt),.int .i64 ((x5.cell 1).toInt),.list aa ((x5.cell 2).toList)]))[(IntKind.wrap .i64 (first+i):Int).toNat]?).bind fun x8=>
    (C BU [.int .i64 lo,.int .i64 i,.int .i64 first,.list aa ((ak.set ((first:Int).toNat) (.agg [.int .i64 ((x5.cell 0).toInt),.int .i64 ((x5.cell 1).toInt),.list aa ((x5.cell 2).toList)])).set ((IntKind.wrap .i64 (first+i):Int).toNat) (.agg [.int .i64 ((x6.cell 0).toInt),.int .i64 ((x6.cell 1).toInt),.list aa ((x6.cell 2).toList)]))]).bind fun r9=>
    kn (IntKind.wrap .i64 (i-1),(V.nth r9 0).toList)
   else none
   else none
  else none
  else none
 else
  kr (i,decide ((i:Int)≥0),ak)
noncomputable def Ix (C:ae) (first lo:Int):(Int × (List V))→Option ((Int × (List V)) ⊕ (Int × Bool × (List V))):=un fun i ak=>DA C first lo i ak (fun y=>some (.inl y)) (fun r=>some (.inr r))
noncomputable def Xh (C:ae):b8:=fun β n ds k=>
 bif Nat.beq n 65 then bM MJ [false,false,false,true,true] [[1,2,3,0,0,0]] (@Dz C) ds k else
 bif Nat.beq n 129 then bM MK [false,false,true,true] [[1,2,0,0,0]] (@DA C) ds k else
 none
abbrev Xi (C:ae) (b:bZ):Prop:=b6 Tryz.prog av C (Xh C) 94 (cl Tryz.prog (av.aQ 94)) (av.sin 94).bc.length b
theorem ajD (C:ae):Xi C (.loop (ax [1,1,1,0,1,0,0] Iv)):=
 bP MJ [false,false,false,true,true] [[1,2,3,0,0,0]] (@Dz C) (by kernel_rfl) (a9 (bs:=[]) (by kernel_rfl) aw) (fun ds=>by kernel_rfl) (fun i x=>by kernel_rfl) (fun i x β k=>by kernel_rfl) (fun β ds k=>by kernel_rfl)
theorem ajE (C:ae):Xi C (.loop (ax [1,1,1,1,1,0,0] Iv)):=
 bP MK [false,false,true,true] [[1,2,0,0,0]] (@DA C) (by kernel_rfl) (a9 (bs:=[]) (by kernel_rfl) aw) (fun ds=>by kernel_rfl) (fun i x=>by kernel_rfl) (fun i x β k=>by kernel_rfl) (fun β ds k=>by kernel_rfl)
noncomputable def Xj (C:ae) (a b':Int) (ak:List V):Option (List V):=
 (Loop (Iw C a 0 (IntKind.wrap .i64 (b'-a))) (IntKind.wrap .i64 (Int.tdiv (IntKind.wrap .i64 ((IntKind.wrap .i64 (b'-a))-1)) 2),ak)).bind (un fun (i_2:Int)=>un fun (kL:Bool) (ajF:List V)=>
  (Loop (Ix C a 0) (IntKind.wrap .i64 ((IntKind.wrap .i64 (b'-a))-1),ajF)).bind (un fun (apg:Int)=>un fun (rZ:Bool) (nh:List V)=>
   some [.list aa nh]))
theorem ajG {a b':Int} {ak:List V} {r:Option (List V)} (h:Xj CC a b' ak=r):CC BQ [.int .i64 a,.int .i64 b',.list aa ak]=r:=
 aZ (key:=94) (L:=Xh CC) (bs:=[.loop (ax [1,1,1,0,1,0,0] Iv),.loop (ax [1,1,1,1,1,0,0] Iv)]) (by kernel_rfl) (br (ajD CC) (br (ajE CC) aw)) (aX (by kernel_rfl) h)
noncomputable abbrev Xk:Code:=cj Tryz.prog (av.aQ 97)
noncomputable def zx (C:ae) (i j:Int) (ak:List V) {β:Type} (kn:(Int × Int × (List V))→Option β) (kr:(Int × Int × Bool × (List V))→Option β):Option β:=
 bif decide ((i:Int)<j) then
  bif (decide (0≤j))&&(decide (j<(ak.length:Int))) then
  (ak[(j:Int).toNat]?).bind fun x1=>
  bif (decide (0≤i))&&(decide (i<(ak.length:Int))) then
   (ak[(i:Int).toNat]?).bind fun x2=>
   bif (decide (0≤i))&&(decide (i<(ak.length:Int))) then
   (ak[(i:Int).toNat]?).bind fun x3=>
   bif (decide (0≤j))&&(decide (j<((ak.set ((i:Int).toNat) (.agg [.int .i64 ((x1.cell 0).toInt),.int .i64 ((x1.cell 1).toInt),.list aa ((x1.cell 2).toList)])).length:Int))) then
    ((ak.set ((i:Int).toNat) (.agg [.int .i64 ((x1.cell 0).toInt),.int .i64 ((x1.cell 1).toInt),.list aa ((x1.cell 2).toList)]))[(j:Int).toNat]?).bind fun x4=>
    kn (IntKind.wrap .i64 (i+1),IntKind.wrap .i64 (j-1),(ak.set ((i:Int).toNat) (.agg [.int .i64 ((x1.cell 0).toInt),.int .i64 ((x1.cell 1).toInt),.list aa ((x1.cell 2).toList)])).set ((j:Int).toNat) (.agg [.int .i64 ((x2.cell 0).toInt),.int .i64 ((x2.cell 1).toInt),.list aa ((x2.cell 2).toList)]))
   else none
   else none
  else none
  else none
 else
  kr (i,j,decide ((i:Int)<j),ak)
noncomputable def DB (C:ae):(Int × Int × (List V))→Option ((Int × Int × (List V)) ⊕ (Int × Int × Bool × (List V))):=un fun i=>un fun j ak=>zx C i j ak (fun y=>some (.inl y)) (fun r=>some (.inr r))
noncomputable def Xl (C:ae):b8:=fun β n ds k=>
 bif Nat.beq n 33 then bM MP [true,true,true] [[0,0,0,0]] (@zx C) ds k else
 none
abbrev ajH (C:ae) (b:bZ):Prop:=b6 Tryz.prog av C (Xl C) 97 (cl Tryz.prog (av.aQ 97)) (av.sin 97).bc.length b
theorem ajI (C:ae):ajH C (.loop (ax [1,1,0,0] Xk)):=
 bP MP [true,true,true] [[0,0,0,0]] (@zx C) (by kernel_rfl) (a9 (bs:=[]) (by kernel_rfl) aw) (fun ds=>by kernel_rfl) (fun i x=>by kernel_rfl) (fun i x β k=>by kernel_rfl) (fun β ds k=>by kernel_rfl)
noncomputable def Xm (C:ae) (a b':Int) (ak:List V):Option (List V):=
 (Loop (DB C) (a,IntKind.wrap .i64 (b'-1),ak)).bind (un fun (cY:Int)=>un fun (Ot:Int)=>un fun (od:Bool) (ajJ:List V)=>
  some [.list aa ajJ])
theorem ajK {a b':Int} {ak:List V} {r:Option (List V)} (h:Xm CC a b' ak=r):CC Hh [.int .i64 a,.int .i64 b',.list aa ak]=r:=
 aZ (key:=97) (L:=Xl CC) (bs:=[.loop (ax [1,1,0,0] Xk)]) (by kernel_rfl) (br (ajI CC) aw) (aX (by kernel_rfl) h)
end Go.AM
set_option maxRecDepth 100000
set_option maxHeartbeats 4000000
namespace Go.AM.SX
open Go.Proofs Go.Sort
def aA (a b:XE):Bool:=decide (b9 a b<0)
theorem tU (a b:XE):(aA a b=true)=(b9 a b<0):=by unfold aA;rw[dW]
theorem sk (a b:XE):((!aA a b)=true)= ¬(b9 a b<0):=by unfold aA;simp
abbrev eA (d:Array XE):List V:=qD XE.enc d
theorem ajL (a j:Nat) (d:Array XE):insInner aA a (j+1) d=if j+1>a then (if b9 d[j+1]! d[j]! <0 then insInner aA a j (swp d (j+1) j) else d) else d:=by
 rw[Xa]
 by_cases h1:j+1>a
 ·rw[ah h1];simp only[h1,oG,ka,tU]
 ·rw[ai h1,ai (by simp[h1])]
theorem OB (hi first root:Nat) (d:Array XE):siftDown aA hi first root d=
  if 2*root+1≥hi then d else
   if 2*root+2<hi then
    (if b9 d[first+(2*root+1)]! d[first+(2*root+2)]! <0 then
     (if b9 d[first+root]! d[first+(2*root+2)]! <0 then siftDown aA hi first (2*root+2) (swp d (first+root) (first+(2*root+2))) else d)
    else (if b9 d[first+root]! d[first+(2*root+1)]! <0 then siftDown aA hi first (2*root+1) (swp d (first+root) (first+(2*root+1))) else d))
   else (if b9 d[first+root]! d[first+(2*root+1)]! <0 then siftDown aA hi first (2*root+1) (swp d (first+root) (first+(2*root+1))) else d):=by
 rw[siftDown]
 by_cases h1:2*root+1≥hi
 ·rw[sD h1,ah h1]
 rw[dif_neg h1,ai h1]
 by_cases U:2*root+2<hi
 ·rw[ah U]
  by_cases h3:b9 d[first+(2*root+1)]! d[first+(2*root+2)]! <0
  ·rw[ah h3,ah (by simp only[aN,dW,tU];exact ⟨U,h3⟩)]
   simp only[sk]
   by_cases h4:b9 d[first+root]! d[first+(2*root+2)]! <0
   ·rw[ai (qS h4),sD U,ah h4]
   ·rw[ah h4,ai h4]
  ·rw[ai h3,ai (by simp only[aN,dW,tU];exact fun h=>h3 h.2)]
   simp only[sk]
   by_cases h4:b9 d[first+root]! d[first+(2*root+1)]! <0
   ·rw[ai (qS h4),ah h4]
   ·rw[ah h4,ai h4]
 ·rw[ai U,ai (by simp only[aN,dW,tU];exact fun h=>U h.1)]
  simp only[sk]
  by_cases h4:b9 d[first+root]! d[first+(2*root+1)]! <0
  ·rw[ai (qS h4),ah h4]
  ·rw[ah h4,ai h4]
theorem Xn {a b i:Nat}: ∀(j:Nat) (d:Array XE),j<d.size→d.size<1152921504606846976→
  ∃j' t,Loop (zu CC a b i) ((j:Int),eA d)=some (j',t,eA (insInner aA a j d))
 | 0,d,hj,hs=>⟨(0:Nat),false,bj (by
   simp (disch:=omega) only[zu,zt,un,az,ai]
   rfl)⟩
 | j+1,d,hj,hs=>by
  obtain ⟨j',t,ih⟩:=Xn (a:=a) (b:=b) (i:=i) j (swp d (j+1) j) (by rw[size_swp];omega) (by rw[size_swp];omega)
  rw[ajL]
  by_cases h1:j+1>a
  ·rw[ah h1]
   have e:zu CC a b i (((j+1:Nat):Int),eA d)=if b9 d[j+1]! d[j]! <0 then some (.inl ((j:Int),eA (swp d (j+1) j))) else some (.inr (((j+1:Nat):Int),decide (b9 d[j+1]! d[j]! <0),eA d)):=by
    simp (disch:=omega) only[zu,zt,un,az,cu,ga,ah,ai,wrap64,dU,gk,Int.toNat_natCast,Option.bind_some,gh,gj,XE.bz,XE.bA,XE.bB,XE.re,gi,iP,gR,gN,V.aC,V.toInt_int,cond_true,cond_false,wC]
    rfl
   by_cases U:b9 d[j+1]! d[j]! <0
   ·rw[ah U] at e⊢
    exact ⟨j',t,(bW e).trans ih⟩
   ·rw[ai U] at e⊢
    exact ⟨_,_,bj e⟩
  ·rw[ai h1]
   exact ⟨((j+1:Nat):Int),false,bj (by
    simp (disch:=omega) only[zu,zt,un,az,ai])⟩
theorem ajM {a b:Nat}: ∀(n i:Nat) (d:Array XE),b-i=n→b≤d.size→d.size<1152921504606846976→
  ∃j' t,Loop (Iu CC a b) ((i:Int),eA d)=some (j',t,eA (insOuter aA a b i d)):=by
 intro n
 induction n with
 | zero=>
  intro i d hn hb hs
  rw[insOuter,ai (by omega)]
  exact ⟨(i:Int),false,bj (by
   simp (disch:=omega) only[Iu,Dy,un,tS,cond_false])⟩
 | succ n ih=>
  intro i d hn hb hs
  obtain ⟨j1,t1,h1⟩:=Xn (a:=a) (b:=b) (i:=i) i d (by omega) hs
  obtain ⟨j',t,U⟩:=ih (i+1) (insInner aA a i d) (by omega) (by rw[Oy];omega) (by rw[Oy];omega)
  rw[insOuter,ah (by omega)]
  refine ⟨j',t,(bW ?_).trans U⟩
  simp (disch:=omega) only[Iu,Dy,un,az,ah,h1,Option.bind_some,dU,wrap64]
theorem Xo {a b:Nat} {d:Array XE} (hb:b≤d.size) (hs:d.size<1152921504606846976) (ha:a<1152921504606846976):
  CC BP [.int .i64 (a:Int),.int .i64 (b:Int),.list aa (eA d)]=some [.list aa (eA (insertionSort aA d a b))]:=by
 refine ajy ?_
 unfold Xd
 obtain ⟨j',t,h⟩:=ajM (a:=a) (b:=b) _ (a+1) d rfl hb hs
 simp (disch:=omega) only[dU,wrap64]
 rw[h]
 rfl
theorem ajN (hi first:Nat): ∀(n root:Nat) (d:Array XE),hi-root≤n→root<1152921504606846976→first+hi≤d.size→d.size<1152921504606846976→
  (∃x y z,Loop (pw CC hi first) ((root:Int),eA d)=some (.inl (x,y,z,eA (siftDown aA hi first root d))))∨
  (∃x y z,Loop (pw CC hi first) ((root:Int),eA d)=some (.inr (x,y,z,eA (siftDown aA hi first root d)))):=by
 intro n
 induction n with
 | zero=>
  intro root d hn hr hb hs
  rw[OB,ah (by omega)]
  exact .inl ⟨(root:Int),((root*2+1:Nat):Int),true,bj (by
   simp (disch:=omega) only[pw,tT,un,Dw,dU,wrap64];rw[oo (by omega)];rfl)⟩
 | succ n ih=>
  intro root d hn hr hb hs
  by_cases h1:2*root+1≥hi
  ·rw[OB,ah h1]
   exact .inl ⟨(root:Int),((root*2+1:Nat):Int),true,bj (by
    simp (disch:=omega) only[pw,tT,un,Dw,dU,wrap64];rw[oo (by omega)];rfl)⟩
  ·have go: ∀c:Nat,c<hi→root<c→(pw CC hi first ((root:Int),eA d)=
      if b9 d[first+root]! d[first+c]! <0 then some (.inl ((c:Int),eA (swp d (first+root) (first+c)))) else some (.inr (.inr ((root:Int),(c:Int),true,eA d))))→
     siftDown aA hi first root d=(if b9 d[first+root]! d[first+c]! <0 then siftDown aA hi first c (swp d (first+root) (first+c)) else d)→
     ((∃x y z,Loop (pw CC hi first) ((root:Int),eA d)=some (.inl (x,y,z,eA (siftDown aA hi first root d))))∨
     (∃x y z,Loop (pw CC hi first) ((root:Int),eA d)=some (.inr (x,y,z,eA (siftDown aA hi first root d))))):=by
    intro c hc hrc e1 e2
    rw[e2]
    by_cases h3:b9 d[first+root]! d[first+c]! <0
    ·rw[ah h3] at e1
     rw[ah h3,bW e1]
     exact ih c _ (by omega) (by omega) (by rw[size_swp];omega) (by rw[size_swp];omega)
    ·rw[ai h3] at e1
     rw[ai h3,bj e1]
     exact .inr ⟨_,_,_,rfl⟩
   have e0:=OB hi first root d
   rw[ai h1] at e0
   by_cases U:2*root+2<hi
   ·rw[ah U] at e0
    by_cases h3:b9 d[first+(2*root+1)]! d[first+(2*root+2)]! <0
    ·rw[ah h3] at e0
     refine go (2*root+2) (by omega) (by omega) ?_ e0
     rw[kY 2 root] at h3
     simp (disch:=omega) only[pw,tT,un,Dw,dU,gk,wrap64]
     rw[az,ai (by omega),az,ah (by omega)]
     simp (disch:=omega) only[wD,az,cu,ga,ah,ai,wrap64,dU,gk,Int.toNat_natCast,Option.bind_some,gh,gj,XE.bz,XE.bA,XE.bB,XE.re,gi,iP,gR,gN,V.aC,V.toInt_int,cond_true,cond_false,kY 2 root,oo]
     by_cases h4:b9 d[first+root]! d[first+(root*2+2)]! <0
     ·simp only[h4,cU];rfl
     ·simp only[h4,fR];rfl
    ·rw[ai h3] at e0
     refine go (2*root+1) (by omega) (by omega) ?_ e0
     rw[kY 2 root] at h3
     simp (disch:=omega) only[pw,tT,un,Dw,dU,gk,wrap64]
     rw[az,ai (by omega),az,ah (by omega)]
     simp (disch:=omega) only[wD,az,cu,ga,ah,ai,wrap64,dU,gk,Int.toNat_natCast,Option.bind_some,gh,gj,XE.bz,XE.bA,XE.bB,XE.re,gi,iP,gR,gN,V.aC,V.toInt_int,cond_true,cond_false,kY 2 root,tS]
     by_cases h4:b9 d[first+root]! d[first+(root*2+1)]! <0
     ·simp only[h4,cU];rfl
     ·simp only[h4,fR];rfl
   ·rw[ai U] at e0
    refine go (2*root+1) (by omega) (by omega) ?_ e0
    simp (disch:=omega) only[pw,tT,un,Dw,dU,gk,wrap64]
    rw[az,ai (by omega),az,ai (by omega)]
    simp (disch:=omega) only[wD,az,cu,ga,ah,ai,wrap64,dU,gk,Int.toNat_natCast,Option.bind_some,gh,gj,XE.bz,XE.bA,XE.bB,XE.re,gi,iP,gR,gN,V.aC,V.toInt_int,cond_true,cond_false,kY 2 root]
    by_cases h4:b9 d[first+root]! d[first+(root*2+1)]! <0
    ·simp only[h4,cU];rfl
    ·simp only[h4,fR];rfl
theorem Xp {lo hi first:Nat} {d:Array XE} (hl:lo<1152921504606846976) (hb:first+hi≤d.size) (hs:d.size<1152921504606846976):
  CC BU [.int .i64 (lo:Int),.int .i64 (hi:Int),.int .i64 (first:Int),.list aa (eA d)]=some [.list aa (eA (siftDown aA hi first lo d))]:=by
 refine ajC ?_
 unfold Xg
 rcases ajN hi first _ lo d (bU _) hl hb hs with ⟨x,y,z,h⟩|⟨x,y,z,h⟩
 ·rw[h];rfl
 ·rw[h];rfl
theorem Xq {hi first:Nat}: ∀(k:Nat) (d:Array XE),k<1152921504606846976→first+hi≤d.size→d.size<1152921504606846976→
  ∃x y,Loop (Iw CC first 0 hi) ((k:Int)-1,eA d)=some (x,y,eA (heapBuild aA hi first k d))
 | 0,d,hk,hb,hs=>⟨-1,false,bj (by
   simp (disch:=omega) only[Iw,Dz,un,az,ai]
   rfl)⟩
 | k+1,d,hk,hb,hs=>by
  obtain ⟨x,y,ih⟩:=Xq (hi:=hi) (first:=first) k (siftDown aA hi first k d) (by omega) (by rw[Dx _ _ _ _ _ (bU _)];omega) (by rw[Dx _ _ _ _ _ (bU _)];omega)
  refine ⟨x,y,(bW ?_).trans ih⟩
  simp (disch:=omega) only[Iw,Dz,un,az,ah,wC,Xp,Option.bind_some,V.aC,V.bR,wrap64]
theorem Xr {first:Nat}: ∀(k:Nat) (d:Array XE),k<1152921504606846976→first+k≤d.size→d.size<1152921504606846976→
  ∃x y,Loop (Ix CC first 0) ((k:Int)-1,eA d)=some (x,y,eA (heapPop aA first k d))
 | 0,d,hk,hb,hs=>⟨-1,false,bj (by
   simp (disch:=omega) only[Ix,DA,un,az,ai]
   rfl)⟩
 | k+1,d,hk,hb,hs=>by
  obtain ⟨x,y,ih⟩:=Xr (first:=first) k (siftDown aA k first 0 (swp d first (first+k))) (by omega) (by rw[Dx _ _ _ _ _ (bU _),size_swp];omega) (by rw[Dx _ _ _ _ _ (bU _),size_swp];omega)
  refine ⟨x,y,(bW ?_).trans ih⟩
  have hU:=Xp (lo:=0) (hi:=k) (first:=first) (d:=swp d first (first+k)) (by omega) (by rw[size_swp];omega) (by rw[size_swp];omega)
  unfold swp at hU⊢
  rw[show ((0:Nat):Int)=0 from rfl] at hU
  simp (disch:=omega) only[Ix,DA,un,wC,az,cu,ga,ah,ai,wrap64,dU,gk,Int.toNat_natCast,Option.bind_some,gh,gj,XE.bz,XE.bA,XE.bB,XE.re,gi,iP,gR,gN,V.aC,V.toInt_int,cond_true,cond_false]
  rw[hU]
  simp (disch:=omega) only[Option.bind_some,V.aC,V.bR,wrap64]
theorem ajO {a b:Nat} {d:Array XE} (fq:a<b) (hb:b≤d.size) (hs:d.size<1152921504606846976):
  CC BQ [.int .i64 (a:Int),.int .i64 (b:Int),.list aa (eA d)]=some [.list aa (eA (heapSort aA d a b))]:=by
 refine ajG ?_
 unfold Xj
 obtain ⟨x,y,h1⟩:=Xq (hi:=b-a) (first:=a) ((b-a-1)/2+1) d (by omega) (by omega) hs
 obtain ⟨x2,y2,U⟩:=Xr (first:=a) (b-a) (heapBuild aA (b-a) a ((b-a-1)/2+1) d) (by omega) (by rw[Oz];omega) (by rw[Oz];omega)
 have e1:((((b-a-1)/2+1:Nat):Int)-1)=Int.tdiv (((b-a:Nat):Int)-1) 2:=by
  rw[Int.tdiv_eq_ediv_of_nonneg (by omega)]
  omega
 rw[e1] at h1
 simp (disch:=omega) only[ng,wrap64]
 rw[h1]
 simp only[Option.bind_some,un]
 rw[U]
 rfl
theorem ajP: ∀(n i j:Nat) (d:Array XE),j-i≤n→j<d.size→d.size<1152921504606846976→
  ∃x y z,Loop (DB CC) ((i:Int),(j:Int),eA d)=some (x,y,z,eA (reverseLoop i j d)):=by
 intro n
 induction n with
 | zero=>
  intro i j d hn hj hs
  rw[reverseLoop,ai (by omega)]
  exact ⟨(i:Int),(j:Int),false,bj (by
   simp (disch:=omega) only[DB,zx,un,tS,cond_false])⟩
 | succ n ih=>
  intro i j d hn hj hs
  rw[reverseLoop]
  by_cases h:i<j
  ·rw[ah h]
   obtain ⟨x,y,z,U⟩:=ih (i+1) (j-1) (swp d i j) (by omega) (by rw[size_swp];omega) (by rw[size_swp];omega)
   refine ⟨x,y,z,(bW ?_).trans U⟩
   simp (disch:=omega) only[DB,zx,un,az,cu,ga,ah,ai,wrap64,dU,gk,Int.toNat_natCast,Option.bind_some,gh,gj,XE.bz,XE.bA,XE.bB,XE.re,gi,iP,gR,gN,V.aC,V.toInt_int,cond_true,cond_false,kP]
   rfl
  ·rw[ai h]
   exact ⟨(i:Int),(j:Int),false,bj (by
    simp (disch:=omega) only[DB,zx,un,tS,cond_false])⟩
theorem ajQ {a b:Nat} {d:Array XE} (fq:a<b) (hb:b≤d.size) (hs:d.size<1152921504606846976):
  CC Hh [.int .i64 (a:Int),.int .i64 (b:Int),.list aa (eA d)]=some [.list aa (eA (reverseRange d a b))]:=by
 refine ajK ?_
 unfold Xm
 obtain ⟨x,y,z,h⟩:=ajP _ a (b-1) d (bU _) (by omega) hs
 simp (disch:=omega) only[kP,wrap64]
 rw[h]
 rfl
end Go.AM.SX
