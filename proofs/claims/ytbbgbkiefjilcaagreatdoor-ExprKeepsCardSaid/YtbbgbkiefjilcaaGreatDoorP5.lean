/-
  Functions of the program, lifted to plain data.
-/
import Derived.Sort.AssemblyPlain
import Derived.Test.YtbbgbkiefjilcaaGreatDoorP4
set_option linter.unusedVariables false
set_option linter.unusedSimpArgs false
set_option maxRecDepth 100000
namespace Go.AM
open Go.Proofs
noncomputable abbrev QT:Code:=bZ Tryz.prog (ay.aX 122)
noncomputable def Ar (C:af) (i:Int) (cT:List UInt8) (iU:Int) (aA:List V) (k':Int) (wF:List V) {β:Type} (kn:(Int × (List V))→Option β) (kr:(Int × Bool × (List V))→Option β):Option β:=
 bif decide ((k':Int)≤iU) then
  bif (decide (0≤i))&&(decide (i<(aA.length:Int))) then
  (aA[(i:Int).toNat]?).bind fun x2=>
  (cM Tryz.prog aD aA [((i:Int).toNat,0)]).bind fun x3=>
  bif (decide (0≤k'))&&(decide (k'<(x3.toList.length:Int))) then
   (cM Tryz.prog aD aA [((i:Int).toNat,0)]).bind fun x4=>
   (x4.toList[(k':Int).toNat]?).bind fun x5=>
   bif (decide (0≤k'))&&(decide (k'<(wF.length:Int))) then
   (wF[(k':Int).toNat]?).bind fun x6=>
   kn (IntKind.wrap .i64 (k'+1),wF.set ((k':Int).toNat) (.int .u64 (IntKind.wrap .u64 (BitVec.ofInt (IntKind.bits .u64) 18446744073709551615 ^^^ BitVec.ofInt (IntKind.bits .u64) x5.toInt).toNat)))
   else none
  else none
  else none
 else
  kr (k',decide ((k':Int)≤iU),wF)
noncomputable def As (C:af) (i:Int) (cT:List UInt8) (iU:Int) (aA:List V):(Int × (List V))→Option ((Int × (List V)) ⊕ (Int × Bool × (List V))):=un fun k' wF=>Ar C i cT iU aA k' wF (fun y=>some (.inl y)) (fun r=>some (.inr r))
noncomputable def QU (C:af):cw:=fun β n ds k=>
 bif Nat.beq n 33 then bS IF [false,true,false,false,false,true] [[1,0,0,3,4,5,0]] (@Ar C) ds k else
 none
abbrev acq (C:af) (b:cp):Prop:=cq Tryz.prog ay C (QU C) 122 (cH Tryz.prog (ay.aX 122)) (ay.sin 122).aY.length b
theorem acr (C:af):acq C (.loop (ax [1,0,1,0,0] QT)):=
 bX IF [false,true,false,false,false,true] [[1,0,0,3,4,5,0]] (@Ar C) (by kernel_rfl) (bn (bs:=[]) (by kernel_rfl) az) (fun ds=>by kernel_rfl) (fun i x=>by kernel_rfl) (fun i x β k=>by kernel_rfl) (fun β ds k=>by kernel_rfl)
noncomputable def QV (C:af) (i:Int) (cT:List UInt8) (iU:Int) (aA:List V):Option (List V):=
 (C nq [.str cT]).bind fun r1=>
 (Loop (As C i cT iU aA) (Int.fdiv i (2^(min (6:Int).toNat (IntKind.bits .i64))),(V.nth r1 0).toList)).bind (un fun (k_7:Int)=>un fun (Es:Bool) (qc:List V)=>
  bif (decide (0≤(Int.fdiv i (2^(min (6:Int).toNat (IntKind.bits .i64))))))&&(decide ((Int.fdiv i (2^(min (6:Int).toNat (IntKind.bits .i64))))<(qc.length:Int))) then
   (qc[(Int.fdiv i (2^(min (6:Int).toNat (IntKind.bits .i64))):Int).toNat]?).bind fun gl=>
   bif decide (0≤(IntKind.wrap .i64 ((BitVec.ofInt (IntKind.bits .i64) i&&&BitVec.ofInt (IntKind.bits .i64) 63).toNat))) then
   bif (decide (0≤(Int.fdiv i (2^(min (6:Int).toNat (IntKind.bits .i64))))))&&(decide ((Int.fdiv i (2^(min (6:Int).toNat (IntKind.bits .i64))))<(qc.length:Int))) then
    (qc[(Int.fdiv i (2^(min (6:Int).toNat (IntKind.bits .i64))):Int).toNat]?).bind fun iT=>
    bif (decide (0≤iU))&&(decide (iU<((qc.set ((Int.fdiv i (2^(min (6:Int).toNat (IntKind.bits .i64))):Int).toNat) (.int .u64 (IntKind.wrap .u64 ((BitVec.ofInt (IntKind.bits .u64) gl.toInt&&&BitVec.ofInt (IntKind.bits .u64) (IntKind.wrap .u64 (18446744073709551615*2^(min (IntKind.wrap .i64 ((BitVec.ofInt (IntKind.bits .i64) i&&&BitVec.ofInt (IntKind.bits .i64) 63).toNat)).toNat (IntKind.bits .u64))))).toNat)))).length:Int))) then
    ((qc.set ((Int.fdiv i (2^(min (6:Int).toNat (IntKind.bits .i64))):Int).toNat) (.int .u64 (IntKind.wrap .u64 ((BitVec.ofInt (IntKind.bits .u64) gl.toInt&&&BitVec.ofInt (IntKind.bits .u64) (IntKind.wrap .u64 (18446744073709551615*2^(min (IntKind.wrap .i64 ((BitVec.ofInt (IntKind.bits .i64) i&&&BitVec.ofInt (IntKind.bits .i64) 63).toNat)).toNat (IntKind.bits .u64))))).toNat))))[(iU:Int).toNat]?).bind fun EK=>
    bif decide (0≤(IntKind.wrap .i64 (63-(IntKind.wrap .i64 ((BitVec.ofInt (IntKind.bits .i64) (cT.length:Int)&&&BitVec.ofInt (IntKind.bits .i64) 63).toNat))))) then
     bif (decide (0≤iU))&&(decide (iU<((qc.set ((Int.fdiv i (2^(min (6:Int).toNat (IntKind.bits .i64))):Int).toNat) (.int .u64 (IntKind.wrap .u64 ((BitVec.ofInt (IntKind.bits .u64) gl.toInt&&&BitVec.ofInt (IntKind.bits .u64) (IntKind.wrap .u64 (18446744073709551615*2^(min (IntKind.wrap .i64 ((BitVec.ofInt (IntKind.bits .i64) i&&&BitVec.ofInt (IntKind.bits .i64) 63).toNat)).toNat (IntKind.bits .u64))))).toNat)))).length:Int))) then
     ((qc.set ((Int.fdiv i (2^(min (6:Int).toNat (IntKind.bits .i64))):Int).toNat) (.int .u64 (IntKind.wrap .u64 ((BitVec.ofInt (IntKind.bits .u64) gl.toInt&&&BitVec.ofInt (IntKind.bits .u64) (IntKind.wrap .u64 (18446744073709551615*2^(min (IntKind.wrap .i64 ((BitVec.ofInt (IntKind.bits .i64) i&&&BitVec.ofInt (IntKind.bits .i64) 63).toNat)).toNat (IntKind.bits .u64))))).toNat))))[(iU:Int).toNat]?).bind fun gH=>
     bif (decide (0≤i))&&(decide (i<(aA.length:Int))) then
      (aA[(i:Int).toNat]?).bind fun lD=>
      some [.str cT,.int .i64 iU,.list aD (aA.set ((i:Int).toNat) (.list aJ ((qc.set ((Int.fdiv i (2^(min (6:Int).toNat (IntKind.bits .i64))):Int).toNat) (.int .u64 (IntKind.wrap .u64 ((BitVec.ofInt (IntKind.bits .u64) gl.toInt&&&BitVec.ofInt (IntKind.bits .u64) (IntKind.wrap .u64 (18446744073709551615*2^(min (IntKind.wrap .i64 ((BitVec.ofInt (IntKind.bits .i64) i&&&BitVec.ofInt (IntKind.bits .i64) 63).toNat)).toNat (IntKind.bits .u64))))).toNat)))).set ((iU:Int).toNat) (.int .u64 (IntKind.wrap .u64 ((BitVec.ofInt (IntKind.bits .u64) EK.toInt&&&BitVec.ofInt (IntKind.bits .u64) (Int.fdiv 18446744073709551615 (2^(min (IntKind.wrap .i64 (63-(IntKind.wrap .i64 ((BitVec.ofInt (IntKind.bits .i64) (cT.length:Int)&&&BitVec.ofInt (IntKind.bits .i64) 63).toNat)))).toNat (IntKind.bits .u64))))).toNat))))))]
     else none
     else none
    else none
    else none
   else none
   else none
  else none)
theorem acs {i:Int} {cT:List UInt8} {iU:Int} {aA:List V} {r:Option (List V)} (h:QV CC i cT iU aA=r):CC oD [.int .i64 i,.str cT,.int .i64 iU,.list aD aA]=r:=
 bd (key:=122) (L:=QU CC) (bs:=[.loop (ax [1,0,1,0,0] QT)]) (by kernel_rfl) (bD (acr CC) az) (ba (by kernel_rfl) h)
def mW (w:List UInt8):Nat:=w.length/64+1
abbrev uV (w:List UInt8) (S:Nat):V:= .list aJ (aZ (mW w) S)
abbrev oV (w:List UInt8) (R:Nat→Option Nat):V:= .list aD (Rows (mW w) (w.length+1) R)
theorem lE {w:List UInt8} (h:w.length≤2048):mW w≤100:=by unfold mW;omega
theorem nB {w:List UInt8} {i:Nat} (h:i≤w.length):i/64<mW w:=by unfold mW;omega
theorem Au {w:List UInt8}:w.length<64*mW w:=by unfold mW;omega
theorem rG {w:List UInt8} (h:w.length≤2048):CC nq [.str w]=some [uV w 0]:=abu h
def base (w:List UInt8) (o l:Int) (i:Nat):Nat:=if o=2 then 2^i else if o=3∧i<w.length∧ft w i=l then 2^(i+1) else 0
theorem acu {w:List UInt8} {o l:Int} {ks:List V} {R:Nat→Option Nat} {i:Nat} (hw:w.length≤2048) (hl: ∀i,i<w.length→0≤ft w i) (hi:i≤w.length):
  CC ow [.int .i64 (i:Int),.str w,.int .i64 o,.int .i64 l,.list aa ks,oV w R]=some [.str w,.int .i64 o,.int .i64 l,.list aa ks,oV w (upd R i (base w o l i))]:=by
 refine acf ?_
 unfold QJ
 rw[rG hw]
 simp only[Option.bind_some,V.aI,V.bR,ca,av,Int.toNat_natCast,jy,iS (show i<w.length+1 by omega),tG]
 rw[ag (by omega),ag (by omega)]
 unfold EJ base
 by_cases U:o=2
 ·have e:(o==2)=true:=by simp[U]
  rw[e,ag U]
  simp only[cond_true,jy,ca,av,Int.toNat_natCast,iS (show i<w.length+1 by omega),Option.bind_some]
  rw[ag (by omega),ag (by omega),Qe (nB hi) (by omega) (by omega) Ew]
  simp only[Option.bind_some,V.aI,V.bR,Qc,Nat.zero_or]
 ·have e:(o==2)=false:=by simp[U]
  rw[e,ai U]
  simp only[cond_false,dy,av]
  by_cases h3:o=3
  ·rw[ag h3]
   by_cases h4:i<w.length
   ·rw[ag (by omega),←av,PU h4]
    simp only[Option.bind_some,V.toInt_int]
    rw[PW (hl i h4),wrap64 (by have:=hl i h4;omega) (by have:= @PX w i;omega)]
    by_cases h5:ft w i=l
    ·rw[ag h5,ag ⟨h3,h4,h5⟩]
     simp only[jy,ca,av,Int.toNat_natCast,iS (show i<w.length+1 by omega),Option.bind_some]
     rw[ag (by omega),ag (by omega),wrap64 (by omega) (by omega)]
     have:=Qe (m:=mW w) (N:=w.length+1) (i:=i) (j:=i+1) (S:=0) (R:=upd R i 0) (nB (by omega)) (by omega) (by omega) Ew
     rw[Int.natCast_add] at this
     refine (congrArg (fun o=>Option.bind o _) this).trans ?_
     simp only[Option.bind_some,V.aI,V.bR,Qc,Nat.zero_or]
    ·rw[ai h5,ai (fun h=>h5 h.2.2)]
   ·rw[ai (by omega),ai (fun h=>h4 h.2.1)]
  ·rw[ai h3,ai (fun h=>h3 h.1)]
theorem acv {w:List UInt8} {R:Nat→Option Nat} {i S M:Nat} (hw:w.length≤2048) (hi:i≤w.length) (hR:R i=some S) (hS: ∀j,j<i→S.testBit j=false):
  CC ox [.int .i64 (i:Int),uV w M,oV w R]=some [oV w R,uV w (M|||S)]:=by
 refine acn ?_
 unfold QQ
 simp only[ca,av,Int.toNat_natCast,jy,iS (show i<w.length+1 by omega),oK (show i<w.length+1 by omega) hR,Option.bind_some,V.bR]
 rw[ag (by omega),ag (by omega),JE (lE hw) (nB hi) hS]
 simp only[Option.bind_some,V.aI,V.bR]
theorem acw {i a:Nat}:CC oA [.int .i64 (i:Int),.int .i64 (a:Int)]=some [.int .i64 ((min i a:Nat):Int)]:=by
 refine acg ?_
 unfold QK
 congr 3
 split<;>omega
theorem QW {w:List UInt8} {R:Nat→Option Nat} {j O:Nat} (hw:w.length≤2048) (hj:j≤w.length) {S:Nat} (hR:O.testBit j=false→R j=some S) (hS: ∀t,t<j→S.testBit t=false):
  CC oB [.int .i64 (j:Int),uV w O,oV w R]=some [oV w R,uV w (if O.testBit j=true then O else O|||S)]:=by
 refine ach ?_
 unfold QL
 rw[JD (nB hj) (by omega)]
 simp only[Option.bind_some,V.aI,V.cK,fH]
 cases h:O.testBit j with
 | true=>simp
 | false=>
  have hR:=hR h
  simp only[cond_false,ca,av,Int.toNat_natCast,jy,iS (show j<w.length+1 by omega),oK (show j<w.length+1 by omega) hR,Option.bind_some,V.bR]
  rw[ag (by omega),ag (by omega),JE (lE hw) (nB hj) hS]
  simp
theorem acx {w:List UInt8} {R:Nat→Option Nat} {j O S:Nat} {b:Bool} (hw:w.length≤2048) (hj:j≤w.length) (hR:R j=some S) (hS: ∀t,t<j→S.testBit t=false):
  CC oz [.int .i64 (j:Int),.bool b,uV w O,oV w R]=some [.bool b,oV w R,uV w (if b=true∧O.testBit j=true then O else O|||S)]:=by
 refine acp ?_
 unfold QS
 rw[JD (nB hj) (by omega)]
 simp only[Option.bind_some,V.aI,V.cK,fH,ca,av,Int.toNat_natCast,jy,iS (show j<w.length+1 by omega),oK (show j<w.length+1 by omega) hR,V.bR,JE (lE hw) (nB hj) hS]
 rw[ag (by omega),ag (by omega)]
 cases b<;>cases h:O.testBit j<;>simp
theorem JS {m N i:Nat} {R:Nat→Option Nat} {x:V} (h:i<N):((Rows m N R).set i x)[i]? =some x:=by
 rw[xy];simp[jy,h]
theorem acy {m N i:Nat} {R:Nat→Option Nat} {l:List V} (h:i<N):cM Tryz.prog aD ((Rows m N R).set i (.list aJ l)) [(i,0)]=some (.list aJ l):=by
 simp only[cM,JS h,Option.bind_some,Ey]
 rfl
theorem acz {m N i:Nat} {R:Nat→Option Nat} {l l':List V} (h:i<N):setRow Tryz.prog l' aD ((Rows m N R).set i (.list aJ l)) [(i,0)]=(Rows m N R).set i (.list aJ l'):=by
 simp only[setRow,JS h,Ey]
 simp only[List.getElem?_cons_zero,List.set_cons_zero,cf,JG,cond_false,V.aI,List.set_set]
theorem acA {m N i S:Nat} {R:Nat→Option Nat} (hR:R i=some S):Rows m N R=(Rows m N R).set i (.list aJ (aZ m S)):=by
 rw[tG]
 congr 1
 funext j
 unfold upd
 split
 ·rename_i h;rw[h,hR]
 ·rfl
def lF (o:Int) (a b:Nat):Nat:=if o=4 then a|||b else a&&&b
theorem acB {o:Int} {a b n:Nat} (ha:a<2^n) (hb:b<2^n):lF o a b<2^n:=by
 unfold lF;split
 ·exact BH ha hb
 ·exact mN Nat.and_le_left ha
theorem JT {o:Int} {a b j:Nat}:(lF o a b).testBit j=if o=4 then (a.testBit j||b.testBit j) else (a.testBit j&&b.testBit j):=by
 unfold lF;split
 ·rw[qB]
 ·rw[uI]
theorem acC {w:List UInt8} {R R2:Nat→Option Nat} {i S T:Nat} {o l:Int} {ks:List V} (hw:w.length≤2048) (hi:i≤w.length) (hR:R i=some S) (hT:R2 i=some T):
  CC oC [.int .i64 (i:Int),.int .i64 o,.int .i64 l,.list aa ks,oV w R,oV w R2]=some [.int .i64 o,.int .i64 l,.list aa ks,oV w (upd R i (lF o S T)),oV w R2]:=by
 refine acm ?_
 unfold QP
 have hN:i<w.length+1:=by omega
 have hm:=lE hw
 simp only[ca,av,Int.toNat_natCast,jy,iS hN,oK hN hR,Option.bind_some,V.bR,kL]
 rw[ag (by omega),ag (by omega)]
 let g:Nat→Nat→Nat:=fun b k=>if k<b then lF o (wd S k) (wd T k) else wd S k
 have hg: ∀b k,g b k<2^64:=fun b k=>by
  show (if k<b then _ else _)<_
  split
  ·exact acB fU fU
  ·exact fU
 have go: ∀d b,b+d=mW w→Loop (Aq CC (i:Int) (mW w:Int) o l ks (Rows (mW w) (w.length+1) R2)) ((b:Int),(Rows (mW w) (w.length+1) R).set i (.list aJ (cZ (mW w) (g b))))=some ((mW w:Int),false,(Rows (mW w) (w.length+1) R).set i (.list aJ (cZ (mW w) (g (mW w))))):=by
  intro d
  induction d with
  | zero=>
   intro b hb
   have hb:b=mW w:=by omega
   subst hb
   refine bq ?_
   simp only[Aq,Ap,un]
   rw[av,ai (by omega),c7 (by omega)]
  | succ d ih=>
   intro b hb
   have wG:b<mW w:=by omega
   have bL:Aq CC (i:Int) (mW w:Int) o l ks (Rows (mW w) (w.length+1) R2) ((b:Int),(Rows (mW w) (w.length+1) R).set i (.list aJ (cZ (mW w) (g b))))=some (.inl (((b+1:Nat):Int),(Rows (mW w) (w.length+1) R).set i (.list aJ (cZ (mW w) (g (b+1)))))):=by
    simp only[Aq,Ap,un]
    simp only[ca,av,dy,Int.toNat_natCast,lP,jy,JS hN,acy hN,Option.bind_some,V.bR,V.toInt_int,tC,tD wG,iS hN,oK hN hT,kL,j4 wG,acz hN]
    have e1:g b b=wd S b:=by simp[g]
    have e2:cZ (mW w) (fun j=>if j=b then lF o (wd S b) (wd T b) else g b j)=cZ (mW w) (g (b+1)):=by
     refine ry fun k _=> ?_
     show (if k=b then lF o (wd S b) (wd T b) else if k<b then lF o (wd S k) (wd T k) else wd S k)=if k<b+1 then lF o (wd S k) (wd T k) else wd S k
     by_cases h1:k=b
     ·subst h1;rw[ag rfl,ag (by omega)]
     ·rw[ai h1]
      by_cases U:k<b
      ·rw[ag U,ag (by omega)]
      ·rw[ai U,ai (by omega)]
    have t1:(b:Int)<(mW w:Int):=by omega
    have t2:(0:Int)≤(i:Int):=by omega
    have t3:(i:Int)<((w.length+1:Nat):Int):=by omega
    have t4:(0:Int)≤(b:Int):=by omega
    simp only[t1,t2,t3,t4,cP]
    rw[e1,u64_or fU fU,u64_and fU fU,tE,tE,wrap64 (by omega) (by omega)]
    by_cases h4:o=4
    ·rw[ag h4]
     unfold lF at e2
     simp only[h4,cP] at e2
     rw[e2];rfl
    ·rw[ai h4]
     unfold lF at e2
     simp only[h4,fa] at e2
     rw[e2];rfl
   rw[ct bL]
   exact ih (b+1) (by omega)
 have e0:Rows (mW w) (w.length+1) R=(Rows (mW w) (w.length+1) R).set i (.list aJ (cZ (mW w) (g 0))):=by
  have:cZ (mW w) (g 0)=aZ (mW w) S:=ry fun k _=>by show (if k<0 then _ else _)=_;rw[ai (by omega)]
  rw[this];exact acA hR
 have e1:cZ (mW w) (g (mW w))=aZ (mW w) (lF o S T):=by
  refine Ev (fun k _=>hg _ _) fun k hk j hj=> ?_
  show (if k<mW w then _ else _:Nat).testBit j=_
  rw[ag hk,JT,JT,my,my]
  simp[hj]
 have hl:=go (mW w) 0 (by omega)
 rw[←e0,e1,tG] at hl
 refine (congrArg (fun o=>Option.bind o _) hl).trans ?_
 simp[un]
def full:Nat:=2^64-1
theorem JU {j:Nat}:full.testBit j=decide (j<64):=by unfold full;rw[Nat.testBit_two_pow_sub_one]
theorem acD {A:Nat} (hA:A<2^64):IntKind.wrap .u64 (BitVec.ofInt (IntKind.bits .u64) 18446744073709551615 ^^^ BitVec.ofInt (IntKind.bits .u64) (A:Int)).toNat=((full ^^^ A:Nat):Int):=by
 have e:(18446744073709551615:Int)=((full:Nat):Int):=by unfold full;rfl
 have hf:full<2^64:=by unfold full;omega
 rw[e,BitVec.toNat_xor,we (n:=IntKind.bits .u64) (A:=full) hf,we (n:=IntKind.bits .u64) (A:=A) hA]
 exact rr (Nat.xor_lt_two_pow hf hA)
def qd (s:Nat):Nat:=full*2^s %2^64
def Av (s:Nat):Nat:=full/2^s
theorem acE {s:Nat}:qd s<2^64:=uG _ (by decide)
theorem acF {s:Nat}:Av s<2^64:=mN (Nat.div_le_self _ _) (by unfold full;omega)
theorem acG {s j:Nat} (hj:j<64):(qd s).testBit j=decide (s≤j):=by
 unfold qd
 rw[Nat.testBit_mod_two_pow,ka,Nat.testBit_two_pow_mul,JU]
 by_cases h:s≤j
 ·have U:j-s<64:=by omega
  simp[h,hj,U]
 ·simp[h]
theorem acH {s j:Nat}:(Av s).testBit j=decide (j+s<64):=by
 unfold Av
 rw[Nat.testBit_div_two_pow,JU]
theorem acI {s:Nat} (h:s<64):IntKind.wrap .u64 (18446744073709551615*2^(min s (IntKind.bits .u64)))=((qd s:Nat):Int):=by
 have e:min s (IntKind.bits .u64)=s:=Nat.min_eq_left (by show s≤64;omega)
 rw[e,wrap_u64]
 unfold qd full
 rw[Int.natCast_emod,Int.natCast_mul,Int.natCast_pow]
 rfl
theorem acJ {s:Nat} (h:s<64):Int.fdiv 18446744073709551615 (2^(min s (IntKind.bits .u64)))=((Av s:Nat):Int):=by
 have:=wg (A:=full) (m:=s) h
 exact this
def EM (i n S:Nat):Nat:=(((2^(n+1)-1) ^^^ (S&&&(2^(n+1)-1))) >>> i) <<< i
theorem QX {i n S j:Nat}:(EM i n S).testBit j=(decide (i≤j)&&(decide (j≤n)&& !(S.testBit j))):=by
 unfold EM
 rw[Nat.testBit_shiftLeft,Nat.testBit_shiftRight,Nat.testBit_xor,uI,Nat.testBit_two_pow_sub_one]
 by_cases h:i≤j
 ·have e:i+(j-i)=j:=by omega
  have e2:(j<n+1)↔(j≤n):=by omega
  simp only[e,e2,h,ge_iff_le,nH,kb]
  by_cases U:j≤n<;>simp[U]
 ·simp[h]
theorem acK {w:List UInt8} {R:Nat→Option Nat} {i S:Nat} (hw:w.length≤2048) (hi:i≤w.length) (hR:R i=some S):
  CC oD [.int .i64 (i:Int),.str w,.int .i64 ((w.length/64:Nat):Int),oV w R]=some [.str w,.int .i64 ((w.length/64:Nat):Int),oV w (upd R i (EM i w.length S))]:=by
 refine acs ?_
 unfold QV
 have hN:i<w.length+1:=by omega
 have hm:=lE hw
 have him:=nB hi
 have kf:w.length/64<mW w:=by unfold mW;omega
 rw[rG hw,tF,zQ (by omega),zQ (by omega)]
 simp only[Option.bind_some,V.aI,V.bR]
 let g:Nat→Nat→Nat:=fun b k=>if i/64≤k∧k<b then full ^^^ wd S k else wd 0 k
 have qT:full<2^64:=by unfold full;omega
 have go: ∀d b,i/64≤b→b+d=mW w→Loop (As CC (i:Int) w ((w.length/64:Nat):Int) (Rows (mW w) (w.length+1) R)) ((b:Int),cZ (mW w) (g b))=some ((mW w:Int),false,cZ (mW w) (g (mW w))):=by
  intro d
  induction d with
  | zero=>
   intro b _ hb
   have hb:b=mW w:=by omega
   subst hb
   refine bq ?_
   simp only[As,Ar,un]
   rw[av,ai (by unfold mW;omega),c7 (by unfold mW;omega)]
  | succ d ih=>
   intro b jT hb
   have wG:b<mW w:=by omega
   have bL:As CC (i:Int) w ((w.length/64:Nat):Int) (Rows (mW w) (w.length+1) R) ((b:Int),cZ (mW w) (g b))=some (.inl (((b+1:Nat):Int),cZ (mW w) (g (b+1)))):=by
    simp only[As,Ar,un]
    simp only[ca,av,Int.toNat_natCast,jy,Option.bind_some,V.bR,V.toInt_int,tC,tD wG,iS hN,oK hN hR,kL,j4 wG]
    have t1:(b:Int)<(mW w:Int):=by omega
    have t2:(0:Int)≤(i:Int):=by omega
    have t3:(i:Int)<((w.length+1:Nat):Int):=by omega
    have t4:(0:Int)≤(b:Int):=by omega
    have t5:(b:Int)≤((w.length/64:Nat):Int):=by unfold mW at wG;omega
    simp only[t1,t2,t3,t4,t5,cP]
    rw[acD fU,tE,wrap64 (by omega) (by omega)]
    have e2:cZ (mW w) (fun j=>if j=b then full ^^^ wd S b else g b j)=cZ (mW w) (g (b+1)):=by
     refine ry fun k _=> ?_
     show (if k=b then full ^^^ wd S b else if i/64≤k∧k<b then full ^^^ wd S k else wd 0 k)=if i/64≤k∧k<b+1 then full ^^^ wd S k else wd 0 k
     by_cases h1:k=b
     ·subst h1;rw[ag rfl,ag (by omega)]
     ·rw[ai h1]
      by_cases U:i/64≤k∧k<b
      ·rw[ag U,ag (by omega)]
      ·rw[ai U,ai (by omega)]
    rw[e2];rfl
   rw[ct bL]
   exact ih (b+1) (by omega) (by omega)
 have e0:aZ (mW w) 0=cZ (mW w) (g (i/64)):=ry fun k _=>by
  show _=if i/64≤k∧k<i/64 then _ else wd 0 k
  rw[ai (by omega)]
 have hl:=go (mW w-i/64) (i/64) (by omega) (by omega)
 rw[←e0] at hl
 refine (congrArg (fun o=>Option.bind o _) hl).trans ?_
 generalize hG:g (mW w)=G
 have JV: ∀k,G k<2^64:=fun k=>by
  rw[←hG];show (if i/64≤k∧k<mW w then _ else _)<_
  split
  ·exact Nat.xor_lt_two_pow qT fU
  ·exact fU
 have s1:i %64<64:=by omega
 have s2:63-w.length %64<64:=by omega
 have w1:IntKind.wrap .i64 (63-((w.length %64:Nat):Int))=((63-w.length %64:Nat):Int):=by rw[wrap64 (by omega) (by omega)];omega
 simp only[Option.bind_some,un,ca,av,Int.toNat_natCast,tC,tD him,tD kf,V.toInt_int,acI s1,w1,acJ s2]
 rw[u64_and (JV _) acE,tE]
 simp only[tC,tD kf,Option.bind_some,V.toInt_int,jy,iS hN]
 have t1:(0:Int)≤((i/64:Nat):Int):=by omega
 have t2:((i/64:Nat):Int)<(mW w:Int):=by omega
 have t3:(0:Int)≤((i %64:Nat):Int):=by omega
 have t4:(0:Int)≤((w.length/64:Nat):Int):=by omega
 have t5:((w.length/64:Nat):Int)<(mW w:Int):=by omega
 have t6:(0:Int)≤((63-w.length %64:Nat):Int):=by omega
 have t7:(0:Int)≤(i:Int):=by omega
 have t8:(i:Int)<((w.length+1:Nat):Int):=by omega
 simp only[t1,t2,t3,t4,t5,t6,t7,t8,cP]
 have hH: ∀k,(if k=i/64 then G (i/64)&&&qd (i %64) else G k)<2^64:=fun k=>by
  split
  ·exact mN Nat.and_le_left (JV _)
  ·exact JV _
 rw[u64_and (hH _) acF,tE]
 have e9:cZ (mW w) (fun j=>if j=w.length/64 then (if w.length/64=i/64 then G (i/64)&&&qd (i %64) else G (w.length/64))&&&Av (63-w.length %64) else if j=i/64 then G (i/64)&&&qd (i %64) else G j)=aZ (mW w) (EM i w.length S):=by
  refine Ev (fun k _=> ?_) fun k hk j hj=> ?_
  ·split
   ·exact mN Nat.and_le_left (hH _)
   ·exact hH _
  ·have QY:(G k).testBit j=(decide (i/64≤k)&& !(S.testBit (64*k+j))):=by
    rw[←hG]
    show (if i/64≤k∧k<mW w then full ^^^ wd S k else wd 0 k:Nat).testBit j=_
    by_cases h:i/64≤k
    ·rw[ag ⟨h,hk⟩,Nat.testBit_xor,JU,my];simp[hj,h]
    ·rw[ai (fun U=>h U.1),my];simp[h]
   have hK:(if k=i/64 then G (i/64)&&&qd (i %64) else G k:Nat).testBit j=(decide (i≤64*k+j)&& !(S.testBit (64*k+j))):=by
    by_cases h:k=i/64
    ·rw[ag h,←h,uI,QY,acG hj]
     have e:(i %64≤j)↔(i≤64*k+j):=by omega
     have e2:i/64≤k:=by omega
     simp only[e,e2,nH,kb]
     rw[Bool.and_comm]
    ·rw[ai h,QY]
     have e:(i/64≤k)↔(i≤64*k+j):=by omega
     simp only[e]
   rw[QX]
   by_cases h:k=w.length/64
   ·rw[ag h]
    rw[←h,uI,hK,acH]
    have e:(j+(63-w.length %64)<64)↔(64*k+j≤w.length):=by omega
    simp only[e]
    cases decide (i≤64*k+j)<;>cases decide (64*k+j≤w.length)<;>simp
   ·rw[ai h,hK]
    have e:64*k+j≤w.length:=by unfold mW at hk;omega
    simp only[e,nH,kb]
 rw[e9,tG]
theorem acL {w:List UInt8} {R R2:Nat→Option Nat} {i S:Nat} {b:Bool} (hw:w.length≤2048) (hi:i≤w.length) (hR:R i=some S) (hS:In w S)
  (U: ∀j,S.testBit j=true→∃T,R2 j=some T∧(∀t,t<j→T.testBit t=false))
  (hb:b=true→∀j' T' j T x,S.testBit j'=true→S.testBit j=true→R2 j'=some T'→R2 j=some T→T'.testBit j=true→T.testBit x=true→T'.testBit x=true):
  ∃O:Nat,CC oy [.int .i64 (i:Int),.str w,.bool b,oV w R,oV w R2]=some [.str w,.bool b,oV w (upd R i O),oV w R2]∧
   ∀x,O.testBit x=true↔∃j T,S.testBit j=true∧R2 j=some T∧T.testBit x=true:=by
 have hN:i<w.length+1:=by omega
 obtain ⟨⟨b',r',u'⟩,hc,aC,sB,O,eM,hO⟩:=acb (m:=mW w) (F:=S) (lE hw)
  (P:=fun t a=>a.1=b∧a.2.1=Rows (mW w) (w.length+1) R2∧∃O:Nat,a.2.2=aZ (mW w) O∧∀x,O.testBit x=true↔∃j T,j<t∧S.testBit j=true∧R2 j=some T∧T.testBit x=true)
  (fun t a ht cS hP=>by
   obtain ⟨b',r',u'⟩:=a
   obtain ⟨rfl,rfl,O,rfl,hO⟩:=hP
   obtain ⟨T,hT,hTl⟩:=U t cS
   refine ⟨(b',Rows (mW w) (w.length+1) R2,aZ (mW w) (if b'=true∧O.testBit t=true then O else O|||T)),acx hw (hS t cS) hT hTl,rfl,rfl,_,rfl,fun x=> ?_⟩
   constructor
   ·intro hx
    split at hx
    ·obtain ⟨j,T',h1,U,h3,h4⟩:=(hO x).1 hx
     exact ⟨j,T',by omega,U,h3,h4⟩
    ·rcases wA.1 hx with hx|hx
     ·obtain ⟨j,T',h1,U,h3,h4⟩:=(hO x).1 hx
      exact ⟨j,T',by omega,U,h3,h4⟩
     ·exact ⟨t,T,by omega,cS,hT,hx⟩
   ·rintro ⟨j,T',h1,hj,h3,h4⟩
    by_cases ld:j=t
    ·subst ld
     rw[hT] at h3
     obtain rfl:=cC h3
     split
     ·rename_i hc
      obtain ⟨j0,T0,g1,g2,g3,g4⟩:=(hO j).1 hc.2
      exact (hO x).2 ⟨j0,T0,g1,g2,g3,hb hc.1 j0 T0 j T x g2 hj g3 hT g4 h4⟩
     ·exact wA.2 (.inr h4)
    ·have:=(hO x).2 ⟨j,T',by omega,hj,h3,h4⟩
     split
     ·exact this
     ·exact wA.2 (.inl this))
  (fun t a cS hP=>by
   obtain ⟨h1,U,O,h3,hO⟩:=hP
   refine ⟨h1,U,O,h3,fun x=>(hO x).trans ⟨?_,?_⟩⟩
   ·rintro ⟨j,T,h1,U⟩;exact ⟨j,T,by omega,U⟩
   ·rintro ⟨j,T,h1,U,h3⟩
    refine ⟨j,T,?_,U,h3⟩
    have:j≠t:=by rintro rfl;rw[cS] at U;cases U
    omega)
  (b,Rows (mW w) (w.length+1) R2,aZ (mW w) 0) ⟨rfl,rfl,0,rfl,fun x=>⟨fun h=>by simp at h,fun ⟨j,T,h,_⟩=>by omega⟩⟩
 subst aC sB eM
 refine ⟨O,?_,fun x=>(hO x).trans ⟨fun ⟨j,T,_,h⟩=>⟨j,T,h⟩,fun ⟨j,T,h1,h⟩=>⟨j,T,by have:=hS j h1;have:= @Au w;omega,h1,h⟩⟩⟩
 refine aco ?_
 unfold QR
 rw[rG hw]
 simp only[ca,av,Int.toNat_natCast,jy,iS hN,oK hN hR,Option.bind_some,V.bR,V.aI]
 have t7:(0:Int)≤(i:Int):=by omega
 have t8:(i:Int)<((w.length+1:Nat):Int):=by omega
 simp only[t7,t8,cP]
 refine (congrArg (fun o=>Option.bind o _) hc).trans ?_
 simp only[Option.bind_some,dG,dh,V.aI,V.cK,V.bR,tG]
noncomputable def JW (C:af) (an aw:Int) (ah:List V):Option (List V):=
 some [.bool ((an:Int)==1)]
theorem QZ {an aw:Int} {ah:List V} {r:Option (List V)} (h:JW CC an aw ah=r):CC kG [.int .i64 an,.int .i64 aw,.list aa ah]=r:=
 bd (key:=145) (L:=cr) (bs:=[]) (by kernel_rfl) az (ba (by kernel_rfl) h)
noncomputable def JX (C:af) (an aw:Int) (ah:List V):Option (List V):=
 bif (an:Int)==8 then
  bif ((ah.length:Int):Int)==1 then
  (ah[0]?).bind fun x1=>
  (C kG [.int .i64 ((x1.cell 0).toInt),.int .i64 ((x1.cell 1).toInt),.list aa ((x1.cell 2).toList)]).bind fun r2=>
  some [.bool ((V.nth r2 0).toBool)]
  else
  some [.bool false]
 else
  some [.bool false]
theorem Q0 {an aw:Int} {ah:List V} {r:Option (List V)} (h:JX CC an aw ah=r):CC jZ [.int .i64 an,.int .i64 aw,.list aa ah]=r:=
 bd (key:=116) (L:=cr) (bs:=[]) (by kernel_rfl) az (ba (by kernel_rfl) h)
noncomputable def tU (C:af) (m:List UInt8) (an aw:Int) (ah cG:List V):Option (List V):=
 bif (an:Int)==5 then
  (C DW [.str m,.list aa ah,.list aJ cG]).bind fun r1=>
  some [.list aD ((V.nth r1 0).toList)]
 else
  bif (an:Int)==7 then
  (ah[0]?).bind fun x2=>
  (C DX [.str m,.int .i64 ((x2.cell 0).toInt),.int .i64 ((x2.cell 1).toInt),.list aa ((x2.cell 2).toList),.list aJ cG]).bind fun r3=>
  some [.list aD ((V.nth r3 0).toList)]
  else
  bif (an:Int)==4 then
   bif (an:Int)==4 then
   (C zn [.str m,.int .i64 an,.int .i64 aw,.list aa ah,.list aJ cG]).bind fun r4=>
   some [.list aD ((V.nth r4 0).toList)]
   else
   bif (an:Int)==8 then
    (ah[0]?).bind fun x5=>
    (C zo [.str m,.int .i64 ((x5.cell 0).toInt),.int .i64 ((x5.cell 1).toInt),.list aa ((x5.cell 2).toList),.list aJ cG]).bind fun r6=>
    some [.list aD ((V.nth r6 0).toList)]
   else
    bif (decide (0≤(IntKind.wrap .i64 ((m.length:Int)+1))))&&((decide ((IntKind.wrap .i64 ((m.length:Int)+1))≤(IntKind.wrap .i64 ((m.length:Int)+1))))&&(Nat.ble (((IntKind.wrap .i64 ((m.length:Int)+1):Int).toNat)*24) dN)) then
    (C lu [.list aJ cG,.str m,.int .i64 an,.int .i64 aw,.list aa ah,.list aD (List.replicate ((IntKind.wrap .i64 ((m.length:Int)+1):Int).toNat) (V.list aJ ([]:List V)))]).bind fun r7=>
    some [.list aD ((V.nth ((r7.drop 1).drop 3) 0).toList)]
    else none
  else
   bif (an:Int)==6 then
   (C zn [.str m,.int .i64 an,.int .i64 aw,.list aa ah,.list aJ cG]).bind fun r8=>
   some [.list aD ((V.nth r8 0).toList)]
   else
   bif (an:Int)==8 then
    (ah[0]?).bind fun x9=>
    (C zo [.str m,.int .i64 ((x9.cell 0).toInt),.int .i64 ((x9.cell 1).toInt),.list aa ((x9.cell 2).toList),.list aJ cG]).bind fun qe=>
    some [.list aD ((V.nth qe 0).toList)]
   else
    bif (decide (0≤(IntKind.wrap .i64 ((m.length:Int)+1))))&&((decide ((IntKind.wrap .i64 ((m.length:Int)+1))≤(IntKind.wrap .i64 ((m.length:Int)+1))))&&(Nat.ble (((IntKind.wrap .i64 ((m.length:Int)+1):Int).toNat)*24) dN)) then
    (C lu [.list aJ cG,.str m,.int .i64 an,.int .i64 aw,.list aa ah,.list aD (List.replicate ((IntKind.wrap .i64 ((m.length:Int)+1):Int).toNat) (V.list aJ ([]:List V)))]).bind fun kM=>
    some [.list aD ((V.nth ((kM.drop 1).drop 3) 0).toList)]
    else none
theorem wH {m:List UInt8} {an aw:Int} {ah cG:List V} {r:Option (List V)} (h:tU CC m an aw ah cG=r):CC lr [.str m,.int .i64 an,.int .i64 aw,.list aa ah,.list aJ cG]=r:=
 bd (key:=48) (L:=cr) (bs:=[]) (by kernel_rfl) az (ba (by kernel_rfl) h)
noncomputable abbrev Q1:Code:=bZ Tryz.prog (ay.aX 82)
noncomputable def wI (C:af) (cG t20:List V) (t21 t22:Int) (ms:List UInt8) (eP:List V) {β:Type} (kn:(Int × (List UInt8) × (List V))→Option β) (kr:(Int × Bool × (List UInt8) × (List V))→Option β):Option β:=
 bif decide ((t22:Int)<t21) then
  (idx t20 t22).bind fun x3=>
  (C nq [.str ms]).bind fun r4=>
  (C H0 [.list aJ cG,.list aJ ((V.nth r4 0).toList),.list aD eP]).bind fun r5=>
  (C lr [.str ms,.int .i64 ((x3.cell 0).toInt),.int .i64 ((x3.cell 1).toInt),.list aa ((x3.cell 2).toList),.list aJ ((V.nth (r5.drop 1) 0).toList)]).bind fun r6=>
  bif (((x3.cell 0).toInt):Int)==7 then
  (C Ef [.list aJ cG,.str ms,.bool true,.list aD ((V.nth r5 0).toList),.list aD ((V.nth r6 0).toList)]).bind fun r7=>
  kn (IntKind.wrap .i64 (t22+1),(V.nth r7 0).toStr,(V.nth ((r7.drop 1).drop 1) 0).toList)
  else
  (C jZ [.int .i64 ((x3.cell 0).toInt),.int .i64 ((x3.cell 1).toInt),.list aa ((x3.cell 2).toList)]).bind fun r8=>
  (C Ef [.list aJ cG,.str ms,.bool ((V.nth r8 0).toBool),.list aD ((V.nth r5 0).toList),.list aD ((V.nth r6 0).toList)]).bind fun r9=>
  kn (IntKind.wrap .i64 (t22+1),(V.nth r9 0).toStr,(V.nth ((r9.drop 1).drop 1) 0).toList)
 else
  kr (t22,decide ((t22:Int)<t21),ms,eP)
noncomputable def wJ (C:af) (cG t20:List V) (t21:Int):(Int × (List UInt8) × (List V))→Option ((Int × (List UInt8) × (List V)) ⊕ (Int × Bool × (List UInt8) × (List V))):=un fun t22=>un fun ms eP=>wI C cG t20 t21 t22 ms eP (fun y=>some (.inl y)) (fun r=>some (.inr r))
noncomputable def Q2 (C:af):cw:=fun β n ds k=>
 bif Nat.beq n 49 then bS Io [false,false,false,true,true,true] [[1,2,3,0,0,0,0]] (@wI C) ds k else
 none
abbrev acM (C:af) (b:cp):Prop:=cq Tryz.prog ay C (Q2 C) 82 (cH Tryz.prog (ay.aX 82)) (ay.sin 82).aY.length b
theorem acN (C:af):acM C (.loop (ax [1,1,0,1,0,0] Q1)):=
 bX Io [false,false,false,true,true,true] [[1,2,3,0,0,0,0]] (@wI C) (by kernel_rfl) (bn (bs:=[]) (by kernel_rfl) az) (fun ds=>by kernel_rfl) (fun i x=>by kernel_rfl) (fun i x β k=>by kernel_rfl) (fun β ds k=>by kernel_rfl)
noncomputable def Q3 (C:af) (m:List UInt8) (kids cG:List V):Option (List V):=
 (kids[0]?).bind fun x1=>
 (C lr [.str m,.int .i64 ((x1.cell 0).toInt),.int .i64 ((x1.cell 1).toInt),.list aa ((x1.cell 2).toList),.list aJ cG]).bind fun r2=>
 bif decide (1≤(kids.length:Int)) then
  (Loop (wJ C cG ((kids.drop 1).take (kids.length-1)) (((kids.drop 1).take (kids.length-1)).length:Int)) (0,m,(V.nth r2 0).toList)).bind (un fun (zI:Int)=>un fun (wo:Bool)=>un fun (ail:List UInt8) (z7:List V)=>
   some [.list aD z7])
 else none
theorem acO {m:List UInt8} {kids cG:List V} {r:Option (List V)} (h:Q3 CC m kids cG=r):CC DW [.str m,.list aa kids,.list aJ cG]=r:=
 bd (key:=82) (L:=Q2 CC) (bs:=[.loop (ax [1,1,0,1,0,0] Q1)]) (by kernel_rfl) (bD (acN CC) az) (ba (by kernel_rfl) h)
noncomputable abbrev EN:Code:=bZ Tryz.prog (ay.aX 83)
noncomputable def Aw (C:af) (ms:List UInt8) (Q4 Q5:Int) (Q6:List V) (tV i:Int) (EO:List V) {β:Type} (kn:(Int × (List V))→Option β) (kr:(Int × Bool × (List V))→Option β):Option β:=
 bif decide ((i:Int)≤(ms.length:Int)) then
  (C tj [.int .i64 i,.list aJ EO]).bind fun r3=>
  kn (IntKind.wrap .i64 (i+1),(V.nth r3 0).toList)
 else
  kr (i,decide ((i:Int)≤(ms.length:Int)),EO)
noncomputable def Ax (C:af) (ms:List UInt8) (Q4 Q5:Int) (Q6:List V) (tV:Int):(Int × (List V))→Option ((Int × (List V)) ⊕ (Int × Bool × (List V))):=un fun i EO=>Aw C ms Q4 Q5 Q6 tV i EO (fun y=>some (.inl y)) (fun r=>some (.inr r))
noncomputable def Ay (C:af) (ms:List UInt8) (tV:Int) (Az:List V) (i:Int) (aU:List V) {β:Type} (kn:(Int × (List V))→Option β) (kr:(Int × Bool × (List V))→Option β):Option β:=
 bif decide ((i:Int)≥tV) then
  (C nq [.str ms]).bind fun r8=>
  (C tj [.int .i64 i,.list aJ ((V.nth r8 0).toList)]).bind fun r9=>
  bif (decide (0≤i))&&(decide (i<(Az.length:Int))) then
  (Az[(i:Int).toNat]?).bind fun gl=>
  (cM Tryz.prog aD Az [((i:Int).toNat,0)]).bind fun iT=>
  (C HZ [.list aJ iT.toList,.list aJ ((V.nth r9 0).toList),.list aD aU]).bind fun gI=>
  bif (decide (0≤i))&&(decide (i<(((V.nth gI 0).toList).length:Int))) then
   (((V.nth gI 0).toList)[(i:Int).toNat]?).bind fun gH=>
   kn (IntKind.wrap .i64 (i-1),((V.nth gI 0).toList).set ((i:Int).toNat) (.list aJ ((V.nth (gI.drop 1) 0).toList)))
  else none
  else none
 else
  kr (i,decide ((i:Int)≥tV),aU)
noncomputable def wK (C:af) (ms:List UInt8) (tV:Int) (Az:List V):(Int × (List V))→Option ((Int × (List V)) ⊕ (Int × Bool × (List V))):=un fun i aU=>Ay C ms tV Az i aU (fun y=>some (.inl y)) (fun r=>some (.inr r))
noncomputable def Q7 (C:af):cw:=fun β n ds k=>
 bif Nat.beq n 65 then bS Ip [true,false,false,false,false,true,false] [[0,0,2,3,4,5,0,7]] (@Aw C) ds k else
 bif Nat.beq n 161 then bS Iq [true,false,false,false,true] [[0,0,2,3,4,0]] (@Ay C) ds k else
 none
abbrev Q8 (C:af) (b:cp):Prop:=cq Tryz.prog ay C (Q7 C) 83 (cH Tryz.prog (ay.aX 83)) (ay.sin 83).aY.length b
theorem acP (C:af):Q8 C (.loop (ax [1,1,1,0,1,0,0] EN)):=
 bX Ip [true,false,false,false,false,true,false] [[0,0,2,3,4,5,0,7]] (@Aw C) (by kernel_rfl) (bn (bs:=[]) (by kernel_rfl) az) (fun ds=>by kernel_rfl) (fun i x=>by kernel_rfl) (fun i x β k=>by kernel_rfl) (fun β ds k=>by kernel_rfl)
theorem acQ (C:af):Q8 C (.loop (ax [1,1,1,1,1,1,0,1,0,0] EN)):=
 bX Iq [true,false,false,false,true] [[0,0,2,3,4,0]] (@Ay C) (by kernel_rfl) (bn (bs:=[]) (by kernel_rfl) az) (fun ds=>by kernel_rfl) (fun i x=>by kernel_rfl) (fun i x β k=>by kernel_rfl) (fun β ds k=>by kernel_rfl)
noncomputable def Q9 (C:af) (m:List UInt8) (oL oM:Int) (oN cG:List V):Option (List V):=
 (C nq [.str m]).bind fun r1=>
 (C HW [.list aJ cG,.int .i64 (IntKind.wrap .i64 ((m.length:Int)+1))]).bind fun r2=>
 (Loop (Ax C m oL oM oN ((V.nth r2 0).toInt)) ((V.nth r2 0).toInt,(V.nth r1 0).toList)).bind (un fun (eC:Int)=>un fun (iw:Bool) (acR:List V)=>
  (C lr [.str m,.int .i64 oL,.int .i64 oM,.list aa oN,.list aJ acR]).bind fun r7=>
  bif (decide (0≤(IntKind.wrap .i64 ((m.length:Int)+1))))&&((decide ((IntKind.wrap .i64 ((m.length:Int)+1))≤(IntKind.wrap .i64 ((m.length:Int)+1))))&&(Nat.ble (((IntKind.wrap .i64 ((m.length:Int)+1):Int).toNat)*24) dN)) then
   (Loop (wK C m ((V.nth r2 0).toInt) ((V.nth r7 0).toList)) ((m.length:Int),List.replicate ((IntKind.wrap .i64 ((m.length:Int)+1):Int).toNat) (V.list aJ ([]:List V)))).bind (un fun (aim:Int)=>un fun (Jx:Bool) (JP:List V)=>
    some [.list aD JP])
  else none)
theorem acS {m:List UInt8} {oL oM:Int} {oN cG:List V} {r:Option (List V)} (h:Q9 CC m oL oM oN cG=r):CC DX [.str m,.int .i64 oL,.int .i64 oM,.list aa oN,.list aJ cG]=r:=
 bd (key:=83) (L:=Q7 CC) (bs:=[.loop (ax [1,1,1,0,1,0,0] EN),.loop (ax [1,1,1,1,1,1,0,1,0,0] EN)]) (by kernel_rfl) (bD (acP CC) (bD (acQ CC) az)) (ba (by kernel_rfl) h)
noncomputable abbrev Ra:Code:=bZ Tryz.prog (ay.aX 84)
noncomputable def AA (C:af) (cG t20:List V) (t21:Int) (ms:List UInt8) (t22 kI iQ:Int) (iR aA:List V) {β:Type} (kn:(Int × Int × Int × (List V) × (List V))→Option β) (kr:(Int × Bool × Int × Int × (List V) × (List V))→Option β):Option β:=
 bif decide ((t22:Int)<t21) then
  (idx t20 t22).bind fun x3=>
  (C lr [.str ms,.int .i64 ((x3.cell 0).toInt),.int .i64 ((x3.cell 1).toInt),.list aa ((x3.cell 2).toList),.list aJ cG]).bind fun r4=>
  (C HY [.list aJ cG,.int .i64 kI,.int .i64 iQ,.list aa iR,.list aD aA,.list aD ((V.nth r4 0).toList)]).bind fun r5=>
  kn (IntKind.wrap .i64 (t22+1),(V.nth r5 0).toInt,(V.nth (r5.drop 1) 0).toInt,(V.nth ((r5.drop 1).drop 1) 0).toList,(V.nth (r5.drop 3) 0).toList)
 else
  kr (t22,decide ((t22:Int)<t21),kI,iQ,iR,aA)
noncomputable def AB (C:af) (cG t20:List V) (t21:Int) (ms:List UInt8):(Int × Int × Int × (List V) × (List V))→Option ((Int × Int × Int × (List V) × (List V)) ⊕ (Int × Bool × Int × Int × (List V) × (List V))):=un fun t22=>un fun kI=>un fun iQ=>un fun iR aA=>AA C cG t20 t21 ms t22 kI iQ iR aA (fun y=>some (.inl y)) (fun r=>some (.inr r))
noncomputable def Rb (C:af):cw:=fun β n ds k=>
 bif Nat.beq n 49 then bS Ir [false,false,false,true,false,true,true,true,true] [[1,2,3,0,0,5,0,0,0,0]] (@AA C) ds k else
 none
abbrev acT (C:af) (b:cp):Prop:=cq Tryz.prog ay C (Rb C) 84 (cH Tryz.prog (ay.aX 84)) (ay.sin 84).aY.length b
theorem acU (C:af):acT C (.loop (ax [1,1,0,1,0,0] Ra)):=
 bX Ir [false,false,false,true,false,true,true,true,true] [[1,2,3,0,0,5,0,0,0,0]] (@AA C) (by kernel_rfl) (bn (bs:=[]) (by kernel_rfl) az) (fun ds=>by kernel_rfl) (fun i x=>by kernel_rfl) (fun i x β k=>by kernel_rfl) (fun β ds k=>by kernel_rfl)
noncomputable def Rc (C:af) (m:List UInt8) (an aw:Int) (ah cG:List V):Option (List V):=
 (ah[0]?).bind fun x1=>
 (C lr [.str m,.int .i64 ((x1.cell 0).toInt),.int .i64 ((x1.cell 1).toInt),.list aa ((x1.cell 2).toList),.list aJ cG]).bind fun r2=>
 bif decide (1≤(ah.length:Int)) then
  (Loop (AB C cG ((ah.drop 1).take (ah.length-1)) (((ah.drop 1).take (ah.length-1)).length:Int) m) (0,an,aw,ah,(V.nth r2 0).toList)).bind (un fun (wj:Int)=>un fun (wm:Bool)=>un fun (ain:Int)=>un fun (aio:Int)=>un fun (aip:List V) (Af:List V)=>
   some [.list aD Af])
 else none
theorem acV {m:List UInt8} {an aw:Int} {ah cG:List V} {r:Option (List V)} (h:Rc CC m an aw ah cG=r):CC zn [.str m,.int .i64 an,.int .i64 aw,.list aa ah,.list aJ cG]=r:=
 bd (key:=84) (L:=Rb CC) (bs:=[.loop (ax [1,1,0,1,0,0] Ra)]) (by kernel_rfl) (bD (acU CC) az) (ba (by kernel_rfl) h)
noncomputable def Re (C:af) (m:List UInt8) (oL oM:Int) (oN cG:List V):Option (List V):=
 (C lr [.str m,.int .i64 oL,.int .i64 oM,.list aa oN,.list aJ cG]).bind fun r1=>
 (C HX [.list aJ cG,.str m,.int .i64 (Int.fdiv (m.length:Int) (2^(min (6:Int).toNat (IntKind.bits .i64)))),.list aD ((V.nth r1 0).toList)]).bind fun r2=>
 some [.list aD ((V.nth ((r2.drop 1).drop 1) 0).toList)]
theorem acW {m:List UInt8} {oL oM:Int} {oN cG:List V} {r:Option (List V)} (h:Re CC m oL oM oN cG=r):CC zo [.str m,.int .i64 oL,.int .i64 oM,.list aa oN,.list aJ cG]=r:=
 bd (key:=85) (L:=cr) (bs:=[]) (by kernel_rfl) az (ba (by kernel_rfl) h)
end Go.AM
set_option maxRecDepth 100000
namespace Go.AM
open Go.Proofs Ex
def PR (F:Nat) (R:Nat→Option Nat) (Q:Nat→Nat→Prop) (t:Nat) (Rt:Nat→Option Nat):Prop:=
 (∀i,F.testBit i=true→i<t→∃S,Rt i=some S∧Q i S)∧∀i,t≤i→Rt i=R i
theorem PR.zero {F:Nat} {R:Nat→Option Nat} {Q:Nat→Nat→Prop}:PR F R Q 0 R:=⟨fun _ _ h=>by omega,fun _ _=>rfl⟩
theorem PR.upd {F t S:Nat} {R Rt:Nat→Option Nat} {Q:Nat→Nat→Prop} (h:PR F R Q t Rt) (hQ:Q t S):PR F R Q (t+1) (upd Rt t S):=by
 refine ⟨fun i hi ht=> ?_,fun i hi=> ?_⟩
 ·by_cases e:i=t
  ·subst e;exact ⟨S,Ew,hQ⟩
  ·rw[JF e];exact h.1 i hi (by omega)
 ·rw[JF (by omega)];exact h.2 i (by omega)
theorem PR.skip {F t:Nat} {R Rt:Nat→Option Nat} {Q:Nat→Nat→Prop} (h:PR F R Q t Rt) (hF:F.testBit t=false):PR F R Q (t+1) Rt:=by
 refine ⟨fun i hi ht=> ?_,fun i hi=>h.2 i (by omega)⟩
 by_cases e:i=t
 ·subst e;rw[hF] at hi;cases hi
 ·exact h.1 i hi (by omega)
theorem PR.ends {w:List UInt8} {F:Nat} {R Rt:Nat→Option Nat} {L:Lg} (h:PR F R (fun i S=> ∀j,S.testBit j=true↔Pt w L i j) (64*mW w) Rt) (hF:In w F):Ends w F Rt L:=fun i hi=>by
 have:=hF i hi;have:= @Au w
 exact h.1 i hi (by omega)
theorem Rf {w:List UInt8} {i:Nat} (h:i<w.length):sl w i (i+1)=[w.getD i 0]:=by
 unfold sl
 rw[show i+1-i=1 by omega,List.drop_eq_getElem_cons h,List.take_succ_cons,List.take_zero]
 simp[h]
theorem acX {w:List UInt8} {o l:Int} {i j:Nat} (ho:o=1∨o=2∨o=3) (hi:i≤w.length):(base w o l i).testBit j=true↔Pt w (ec o l []) i j:=by
 unfold base Pt ec
 rcases ho with rfl|rfl|rfl
 ·simp
 ·simp only[cP]
  rw[wB]
  constructor
  ·rintro rfl;exact ⟨bQ _,hi,PL⟩
  ·rintro ⟨h1,U,h3⟩
   have:=wz h1 U
   rw[h3,List.length_nil] at this
   omega
 ·simp only[show¬((3:Int)=2) by omega,fa,cP,true_and]
  by_cases h:i<w.length∧ft w i=l
  ·rw[ag h,wB]
   have e:=Rf h.1
   constructor
   ·rintro rfl
    exact ⟨by omega,by omega,_,e,h.2⟩
   ·rintro ⟨h1,U,c,h3,h4⟩
    have:=wz h1 U
    rw[h3] at this
    simp at this
    omega
  ·rw[ai h]
   constructor
   ·intro h;simp at h
   ·rintro ⟨h1,U,c,h3,h4⟩
    have:=wz h1 U
    rw[h3] at this
    simp at this
    have e2:j=i+1:=by omega
    subst e2
    have aR:i<w.length:=by omega
    have e:=Rf aR
    rw[e] at h3
    injection h3 with h3
    subst h3
    exact absurd ⟨aR,h4⟩ h
theorem acY {e:Ex}:CC kG (c6 e [])=some [.bool (decide (e.op=1))]:=by
 refine QZ ?_
 unfold JW
 congr 3
def AD (e:Ex):Bool:=decide (e.op=8∧e.kids.length=1∧∀k∈e.kids,k.op=1)
theorem acZ {e:Ex}:CC jZ (c6 e [])=some [.bool (AD e)]:=by
 obtain ⟨o,l,ks⟩:=e
 refine Q0 ?_
 unfold JX AD
 simp only[Ex.op,Ex.kids,dy,bM]
 by_cases h1:o=8
 ·rw[ag h1]
  match ks with
  | []=>simp
  | [k]=>
   simp only[dB,nJ,List.getElem?_cons_zero,Option.bind_some,bI,bJ,bK]
   rw[ag (by simp)]
   refine (congrArg (fun o=>Option.bind o _) (acY (e:=k))).trans ?_
   cases k
   simp[h1,Ex.op]
   try rfl
  | k::k2::ks=>
   rw[ai (by simp<;>omega)]
   simp
 ·rw[ai h1];simp[h1]
theorem ac0 {w:List UInt8} {o l:Int} {ks:List V} {F:Nat} (hw:w.length≤2048) (hl: ∀i,i<w.length→0≤ft w i) (ho:o=1∨o=2∨o=3) (hF:In w F):
  ∃R,CC lu [uV w F,.str w,.int .i64 o,.int .i64 l,.list aa ks,oV w (fun _=>none)]=some [.str w,.int .i64 o,.int .i64 l,.list aa ks,oV w R]∧Ends w F R (ec o l []):=by
 obtain ⟨_,hc,R,rfl,hP⟩:=ab2 (m:=mW w) (F:=F) (lE hw)
  (P:=fun t a=> ∃R,a=(w,o,l,ks,Rows (mW w) (w.length+1) R)∧PR F (fun _=>none) (fun i S=> ∀j,S.testBit j=true↔Pt w (ec o l []) i j) t R)
  (fun t a ht cS hP=>by
   obtain ⟨R,rfl,hP⟩:=hP
   exact ⟨(w,o,l,ks,_),acu hw hl (hF t cS),_,rfl,hP.upd fun j=>acX ho (hF t cS)⟩)
  (fun t a cS hP=>by
   obtain ⟨R,h5,hP⟩:=hP
   exact ⟨R,h5,hP.skip cS⟩)
  (w,o,l,ks,Rows (mW w) (w.length+1) fun _=>none) ⟨_,rfl,PR.zero⟩
 exact ⟨R,hc,hP.ends hF⟩
theorem oO {w:List UInt8} {F i:Nat} {R:Nat→Option Nat} {L:Lg} (h:Ends w F R L) (hi:F.testBit i=true): ∃S,R i=some S∧In w S∧(∀j,j<i→S.testBit j=false)∧∀j,S.testBit j=true↔Pt w L i j:=by
 obtain ⟨S,h1,U⟩:=h i hi
 exact ⟨S,h1,PN U,fun j hj=>PO U fun h=>by have:=h.1;omega,U⟩
theorem ac1 {w:List UInt8} {k:Ex} {F:Nat} {R0:Nat→Option Nat} (hw:w.length≤2048) (hF:In w F)
  (hk:CC lr (.str w::c6 k [uV w F])=some [oV w R0]) (hR:Ends w F R0 k.a9):
  ∃R,CC zo (.str w::c6 k [uV w F])=some [oV w R]∧Ends w F R (fun v=> ¬k.a9 v):=by
 obtain ⟨_,hc,R,rfl,hP⟩:=ab5 (m:=mW w) (F:=F) (lE hw)
  (P:=fun t a=> ∃R,a=(w,((w.length/64:Nat):Int),Rows (mW w) (w.length+1) R)∧PR F R0 (fun i S=> ∀j,S.testBit j=true↔Pt w (fun v=> ¬k.a9 v) i j) t R)
  (fun t a ht cS hP=>by
   obtain ⟨R,rfl,hP⟩:=hP
   obtain ⟨S,g1,g2,g3,g4⟩:=oO hR cS
   have hRt:R t=some S:=by rw[hP.2 t (bQ _),g1]
   refine ⟨(w,_,_),acK hw (hF t cS) hRt,_,rfl,hP.upd fun j=> ?_⟩
   rw[QX]
   have:=g4 j
   simp only[aM,dw,lN,Pt]
   constructor
   ·rintro ⟨h1,U,h3⟩
    exact ⟨h1,U,fun h=>by rw[this.2 ⟨h1,U,h⟩] at h3;cases h3⟩
   ·rintro ⟨h1,U,h3⟩
    refine ⟨h1,U,?_⟩
    cases hc:S.testBit j
    ·rfl
    ·exact absurd (this.1 hc).2.2 h3)
  (fun t a cS hP=>by
   obtain ⟨R,h5,hP⟩:=hP
   exact ⟨R,h5,hP.skip cS⟩)
  (w,((w.length/64:Nat):Int),Rows (mW w) (w.length+1) R0) ⟨_,rfl,PR.zero⟩
 refine ⟨R,?_,hP.ends hF⟩
 refine acW ?_
 unfold Re
 refine (congrArg (fun o=>Option.bind o _) hk).trans ?_
 simp only[Option.bind_some,V.aI,V.bR]
 rw[tF]
 refine (congrArg (fun o=>Option.bind o _) hc).trans ?_
 simp only[Option.bind_some,dG,dh,V.aI,V.bR]
def oP (w:List UInt8) (k:Ex):Prop:= ∀F,In w F→∃R,CC lr (.str w::c6 k [uV w F])=some [oV w R]∧Ends w F R k.a9
theorem ac2 {w:List UInt8} {A:Lg} {F:Nat} {R:Nat→Option Nat} (hw:w.length≤2048) (hF:In w F) (hR:Ends w F R A):
  ∃M:Nat,CC QG [uV w F,uV w 0,oV w R]=some [oV w R,uV w M]∧In w M∧∀x,M.testBit x=true↔∃i,F.testBit i=true∧Pt w A i x:=by
 obtain ⟨_,hc,M,rfl,hM⟩:=ab8 (m:=mW w) (F:=F) (lE hw)
  (P:=fun t a=> ∃M:Nat,a=(Rows (mW w) (w.length+1) R,aZ (mW w) M)∧∀x,M.testBit x=true↔∃i,i<t∧F.testBit i=true∧Pt w A i x)
  (fun t a ht cS hP=>by
   obtain ⟨M,rfl,hM⟩:=hP
   obtain ⟨S,g1,g2,g3,g4⟩:=oO hR cS
   refine ⟨(_,_),acv hw (hF t cS) g1 g3,_,rfl,fun x=> ?_⟩
   rw[wA,hM x,g4 x]
   constructor
   ·rintro (⟨i,h1,U⟩|h)
    ·exact ⟨i,by omega,U⟩
    ·exact ⟨t,by omega,cS,h⟩
   ·rintro ⟨i,h1,U,h3⟩
    by_cases e:i=t
    ·subst e;exact .inr h3
    ·exact .inl ⟨i,by omega,U,h3⟩)
  (fun t a cS hP=>by
   obtain ⟨M,h5,hM⟩:=hP
   refine ⟨M,h5,fun x=>(hM x).trans ⟨fun ⟨i,h1,U⟩=>⟨i,by omega,U⟩,fun ⟨i,h1,U,h3⟩=>⟨i,?_,U,h3⟩⟩⟩
   have:i≠t:=by rintro rfl;rw[cS] at U;cases U
   omega)
  (Rows (mW w) (w.length+1) R,aZ (mW w) 0) ⟨0,rfl,fun x=>⟨fun h=>by simp at h,fun ⟨i,h,_⟩=>by omega⟩⟩
 have Rg: ∀x,M.testBit x=true↔∃i,F.testBit i=true∧Pt w A i x:=fun x=>
  (hM x).trans ⟨fun ⟨i,_,h⟩=>⟨i,h⟩,fun ⟨i,h1,h⟩=>⟨i,by have:=hF i h1;have:= @Au w;omega,h1,h⟩⟩
 exact ⟨M,hc,fun i hi=>by obtain ⟨_,_,h⟩:=(Rg i).1 hi;exact h.2.1,Rg⟩
theorem ac3 {k:Ex} (h:AD k=true) (v:List UInt8):k.a9 v:=by
 obtain ⟨o,l,ks⟩:=k
 unfold AD at h
 obtain ⟨h1,U,h3⟩:=iB h
 have h1:o=8:=h1
 subst h1
 have U:ks.length=1:=U
 have h3: ∀k∈ks,k.op=1:=h3
 match ks,U,h3 with
 | [a],_,h3=>
  have:=h3 a (by simp)
  obtain ⟨o,l,ks⟩:=a
  rw[kK]
  have e:o=1:=this
  subst e
  simp[ec,qa,kK]
theorem Rh {w:List UInt8} {A:Lg} {k:Ex} {F M:Nat} {R R2:Nat→Option Nat} {b:Bool} (hw:w.length≤2048) (hF:In w F) (hR:Ends w F R A)
  (hM: ∀x,M.testBit x=true↔∃i,F.testBit i=true∧Pt w A i x) (mB:Ends w M R2 k.a9)
  (hb:b=true→∀i j x,Pt w k.a9 i j→Pt w k.a9 j x→Pt w k.a9 i x):
  ∃R',CC QH [uV w F,.str w,.bool b,oV w R,oV w R2]=some [.str w,.bool b,oV w R',oV w R2]∧Ends w F R' (L2 A k.a9):=by
 obtain ⟨_,hc,R',rfl,hP⟩:=ab9 (m:=mW w) (F:=F) (lE hw)
  (P:=fun t a=> ∃Rt,a=(w,b,Rows (mW w) (w.length+1) Rt,Rows (mW w) (w.length+1) R2)∧PR F R (fun i S=> ∀j,S.testBit j=true↔Pt w (L2 A k.a9) i j) t Rt)
  (fun t a ht cS hP=>by
   obtain ⟨Rt,rfl,hP⟩:=hP
   obtain ⟨S,g1,g2,g3,g4⟩:=oO hR cS
   have AE: ∀j,S.testBit j=true→M.testBit j=true:=fun j hj=>(hM j).2 ⟨t,cS,(g4 j).1 hj⟩
   obtain ⟨O,ho,hO⟩:=acL (R:=Rt) (R2:=R2) (b:=b) hw (hF t cS) (by rw[hP.2 t (bQ _),g1]) g2
    (fun j hj=>by obtain ⟨T,q1,q2,q3,q4⟩:=oO mB (AE j hj);exact ⟨T,q1,q3⟩)
    (fun hbt j' T' j T x fm hj e' e h1 U=>by
     obtain ⟨T1,q1,q2,q3,q4⟩:=oO mB (AE j hj)
     obtain ⟨T2,p1,p2,p3,p4⟩:=oO mB (AE j' fm)
     rw[q1] at e;rw[p1] at e'
     obtain rfl:=cC e
     obtain rfl:=cC e'
     exact (p4 x).2 (hb hbt _ _ _ ((p4 j).1 h1) ((q4 x).1 U)))
   refine ⟨(w,b,_,_),ho,_,rfl,hP.upd fun x=> ?_⟩
   rw[hO x,aa2]
   constructor
   ·rintro ⟨j,T,h1,U,h3⟩
    obtain ⟨T1,q1,q2,q3,q4⟩:=oO mB (AE j h1)
    rw[q1] at U
    obtain rfl:=cC U
    exact ⟨j,(g4 j).1 h1,(q4 x).1 h3⟩
   ·rintro ⟨j,h1,U⟩
    have hj:=(g4 j).2 h1
    obtain ⟨T1,q1,q2,q3,q4⟩:=oO mB (AE j hj)
    exact ⟨j,T1,hj,q1,(q4 x).2 U⟩)
  (fun t a cS hP=>by
   obtain ⟨R,h5,hP⟩:=hP
   exact ⟨R,h5,hP.skip cS⟩)
  (w,b,Rows (mW w) (w.length+1) R,Rows (mW w) (w.length+1) R2) ⟨_,rfl,PR.zero⟩
 exact ⟨R',hc,hP.ends hF⟩
theorem ac4 {w:List UInt8} {F:Nat} (hw:w.length≤2048) (hF:In w F) {rest:List Ex} (hlen:rest.length≤maxLen) (hk: ∀k∈rest,oP w k):
  ∀(bp pre:List Ex) (A:Lg) (R:Nat→Option Nat),rest=pre++bp→Ends w F R A→
  ∃R',Loop (wJ CC (aZ (mW w) F) (rest.map enc) ((rest.map enc).length:Int)) (((pre.length:Nat):Int),w,Rows (mW w) (w.length+1) R)=some (((rest.map enc).length:Int),false,w,Rows (mW w) (w.length+1) R')∧Ends w F R' ((bp.map a9).foldl L2 A):=by
 have hm:=ru
 intro bp
 induction bp with
 | nil=>
  intro pre A R e hR
  rw[eI] at e
  subst e
  refine ⟨R,bq ?_,hR⟩
  simp only[wJ,wI,un,bM]
  rw[av,ai (by omega),c7 (by omega)]
 | cons k bp ih=>
  intro pre A R e hR
  have vD:k∈rest:=by rw[e];simp
  have aR:pre.length<rest.length:=by rw[e];simp
  obtain ⟨M,c1,hMi,hM⟩:=ac2 hw hF hR
  obtain ⟨R2,c2,mB⟩:=hk k vD M hMi
  have step: ∃R',wJ CC (aZ (mW w) F) (rest.map enc) ((rest.map enc).length:Int) (((pre.length:Nat):Int),w,Rows (mW w) (w.length+1) R)=some (.inl (((pre.length+1:Nat):Int),w,Rows (mW w) (w.length+1) R'))∧Ends w F R' (L2 A k.a9):=by
   have hi:idx (rest.map enc) ((pre.length:Nat):Int)=some k.enc:=by rw[e];exact lC pre bp k
   by_cases h7:k.op=7
   ·obtain ⟨R',c3,qf⟩:=Rh (b:=true) hw hF hR hM mB (fun _ i j x h1 U=>by
     obtain ⟨o,l,ks⟩:=k
     have e:o=7:=h7
     subst e
     have el:(Ex.node 7 l ks).a9=dr (qa (ks.map a9)):=by rw[kK];funext v;simp[ec]
     rw[el] at h1 U⊢
     exact JB h1 U)
    refine ⟨R',?_,qf⟩
    simp only[wJ,wI,un,bM]
    rw[av,ag (by omega),hi,rG hw]
    simp only[Option.bind_some,bI,bJ,bK,V.aI,V.bR]
    refine (congrArg (fun o=>Option.bind o _) c1).trans ?_
    simp only[Option.bind_some,dG,dh,V.aI,V.bR]
    refine (congrArg (fun o=>Option.bind o _) c2).trans ?_
    simp only[Option.bind_some,V.aI,V.bR]
    rw[dy,ag h7]
    refine (congrArg (fun o=>Option.bind o _) c3).trans ?_
    simp only[Option.bind_some,dG,dh,V.aI,V.bR,V.ot]
    rw[wrap64 (by omega) (by omega)]
    rfl
   ·obtain ⟨R',c3,qf⟩:=Rh (b:=AD k) hw hF hR hM mB (fun hu i j x h1 U=>⟨kR h1.1 U.1,U.2.1,ac3 hu _⟩)
    refine ⟨R',?_,qf⟩
    simp only[wJ,wI,un,bM]
    rw[av,ag (by omega),hi,rG hw]
    simp only[Option.bind_some,bI,bJ,bK,V.aI,V.bR]
    refine (congrArg (fun o=>Option.bind o _) c1).trans ?_
    simp only[Option.bind_some,dG,dh,V.aI,V.bR]
    refine (congrArg (fun o=>Option.bind o _) c2).trans ?_
    simp only[Option.bind_some,V.aI,V.bR]
    rw[dy,ai h7]
    refine (congrArg (fun o=>Option.bind o _) (acZ (e:=k))).trans ?_
    simp only[Option.bind_some,V.aI,V.cK]
    refine (congrArg (fun o=>Option.bind o _) c3).trans ?_
    simp only[Option.bind_some,dG,dh,V.aI,V.bR,V.ot]
    rw[wrap64 (by omega) (by omega)]
    rfl
  obtain ⟨R',bL,qf⟩:=step
  obtain ⟨JY,h1,U⟩:=ih (pre++[k]) (L2 A k.a9) R' (by simp[e]) qf
  refine ⟨JY,?_,U⟩
  rw[ct bL]
  simpa using h1
theorem drop_one {α:Type} {a:α} {l:List α}:((a::l).drop 1).take ((a::l).length-1)=l:=by simp
theorem ac5 {w:List UInt8} {F:Nat} (hw:w.length≤2048) (hF:In w F) {k:Ex} {rest:List Ex} (hlen:rest.length≤maxLen) (kJ:oP w k) (hk: ∀k∈rest,oP w k):
  ∃R,CC DW [.str w,.list aa ((k::rest).map enc),uV w F]=some [oV w R]∧Ends w F R (zK ((k::rest).map a9)):=by
 obtain ⟨R0,c0,h0⟩:=kJ F hF
 obtain ⟨R,hl,hR⟩:=ac4 hw hF hlen hk rest [] k.a9 R0 rfl h0
 refine ⟨R,acO ?_,by simpa[zK] using hR⟩
 unfold Q3
 simp only[dB,List.getElem?_cons_zero,Option.bind_some,bI,bJ,bK]
 refine (congrArg (fun o=>Option.bind o _) c0).trans ?_
 simp only[Option.bind_some,V.aI,V.bR]
 rw[av,ag (by simp only[List.length_cons];omega),drop_one]
 refine (congrArg (fun o=>Option.bind o _) hl).trans ?_
 rfl
def comb (o:Int) (A B:Lg):Lg:=fun v=>if o=4 then A v∨B v else A v∧B v
theorem ac6 {w:List UInt8} {A:Lg} {k:Ex} {F:Nat} {R R2:Nat→Option Nat} {o l:Int} {ks:List V} (hw:w.length≤2048) (hF:In w F) (hR:Ends w F R A) (mB:Ends w F R2 k.a9):
  ∃R',CC QE [uV w F,.int .i64 o,.int .i64 l,.list aa ks,oV w R,oV w R2]=some [.int .i64 o,.int .i64 l,.list aa ks,oV w R',oV w R2]∧Ends w F R' (comb o A k.a9):=by
 obtain ⟨_,hc,R',rfl,hP⟩:=ab6 (m:=mW w) (F:=F) (lE hw)
  (P:=fun t a=> ∃Rt,a=(o,l,ks,Rows (mW w) (w.length+1) Rt,Rows (mW w) (w.length+1) R2)∧PR F R (fun i S=> ∀j,S.testBit j=true↔Pt w (comb o A k.a9) i j) t Rt)
  (fun t a ht cS hP=>by
   obtain ⟨Rt,rfl,hP⟩:=hP
   obtain ⟨S,g1,g2,g3,g4⟩:=oO hR cS
   obtain ⟨T,q1,q2,q3,q4⟩:=oO mB cS
   refine ⟨(o,l,ks,_,_),acC hw (hF t cS) (by rw[hP.2 t (bQ _),g1]) q1,_,rfl,hP.upd fun x=> ?_⟩
   rw[JT]
   unfold comb
   have a1:=g4 x
   have a2:=q4 x
   unfold Pt at*
   by_cases h4:o=4
   ·rw[ag h4,xD,a1,a2]
    simp only[ag h4]
    constructor
    ·rintro (⟨h1,U,h3⟩|⟨h1,U,h3⟩)
     ·exact ⟨h1,U,.inl h3⟩
     ·exact ⟨h1,U,.inr h3⟩
    ·rintro ⟨h1,U,h3|h3⟩
     ·exact .inl ⟨h1,U,h3⟩
     ·exact .inr ⟨h1,U,h3⟩
   ·rw[ai h4,aM,a1,a2]
    simp only[ai h4]
    constructor
    ·rintro ⟨⟨h1,U,h3⟩,⟨_,_,h4⟩⟩
     exact ⟨h1,U,h3,h4⟩
    ·rintro ⟨h1,U,h3,h4⟩
     exact ⟨⟨h1,U,h3⟩,⟨h1,U,h4⟩⟩)
  (fun t a cS hP=>by
   obtain ⟨R,h5,hP⟩:=hP
   exact ⟨R,h5,hP.skip cS⟩)
  (o,l,ks,Rows (mW w) (w.length+1) R,Rows (mW w) (w.length+1) R2) ⟨_,rfl,PR.zero⟩
 exact ⟨R',hc,hP.ends hF⟩
theorem ac7 {w:List UInt8} {F:Nat} {o l:Int} {es:List V} (hw:w.length≤2048) (hF:In w F) {rest:List Ex} (hlen:rest.length≤maxLen) (hk: ∀k∈rest,oP w k):
  ∀(bp pre:List Ex) (A:Lg) (R:Nat→Option Nat),rest=pre++bp→Ends w F R A→
  ∃R',Loop (AB CC (aZ (mW w) F) (rest.map enc) ((rest.map enc).length:Int) w) (((pre.length:Nat):Int),o,l,es,Rows (mW w) (w.length+1) R)=some (((rest.map enc).length:Int),false,o,l,es,Rows (mW w) (w.length+1) R')∧Ends w F R' ((bp.map a9).foldl (comb o) A):=by
 have hm:=ru
 intro bp
 induction bp with
 | nil=>
  intro pre A R e hR
  rw[eI] at e
  subst e
  refine ⟨R,bq ?_,hR⟩
  simp only[AB,AA,un,bM]
  rw[av,ai (by omega),c7 (by omega)]
 | cons k bp ih=>
  intro pre A R e hR
  have vD:k∈rest:=by rw[e];simp
  have aR:pre.length<rest.length:=by rw[e];simp
  obtain ⟨R2,c2,mB⟩:=hk k vD F hF
  obtain ⟨R',c3,qf⟩:=ac6 (o:=o) (l:=l) (ks:=es) hw hF hR mB
  have bL:AB CC (aZ (mW w) F) (rest.map enc) ((rest.map enc).length:Int) w (((pre.length:Nat):Int),o,l,es,Rows (mW w) (w.length+1) R)=some (.inl (((pre.length+1:Nat):Int),o,l,es,Rows (mW w) (w.length+1) R')):=by
   have hi:idx (rest.map enc) ((pre.length:Nat):Int)=some k.enc:=by rw[e];exact lC pre bp k
   simp only[AB,AA,un,bM]
   rw[av,ag (by omega),hi]
   simp only[Option.bind_some,bI,bJ,bK,V.aI,V.bR]
   refine (congrArg (fun o=>Option.bind o _) c2).trans ?_
   simp only[Option.bind_some,V.aI,V.bR]
   refine (congrArg (fun o=>Option.bind o _) c3).trans ?_
   simp only[Option.bind_some,dG,dh,V.aI,V.bR,V.toInt_int]
   rw[wrap64 (by omega) (by omega)]
   rfl
  obtain ⟨JY,h1,U⟩:=ih (pre++[k]) (comb o A k.a9) R' (by simp[e]) qf
  refine ⟨JY,?_,U⟩
  rw[ct bL]
  simpa using h1
theorem Ri {w:List UInt8} {F:Nat} {o l:Int} (hw:w.length≤2048) (hF:In w F) {k:Ex} {rest:List Ex} (hlen:rest.length≤maxLen) (kJ:oP w k) (hk: ∀k∈rest,oP w k):
  ∃R,CC zn [.str w,.int .i64 o,.int .i64 l,.list aa ((k::rest).map enc),uV w F]=some [oV w R]∧Ends w F R ((rest.map a9).foldl (comb o) k.a9):=by
 obtain ⟨R0,c0,h0⟩:=kJ F hF
 obtain ⟨R,hl,hR⟩:=ac7 (o:=o) (l:=l) (es:=(k::rest).map enc) hw hF hlen hk rest [] k.a9 R0 rfl h0
 refine ⟨R,acV ?_,hR⟩
 unfold Rc
 simp only[dB,List.getElem?_cons_zero,Option.bind_some,bI,bJ,bK]
 refine (congrArg (fun o=>Option.bind o _) c0).trans ?_
 simp only[Option.bind_some,V.aI,V.bR]
 rw[av,ag (by simp only[List.length_cons];omega),drop_one]
 refine (congrArg (fun o=>Option.bind o _) hl).trans ?_
 rfl
theorem Rj {v:List UInt8}: ∀(Ls:List Lg) (A:Lg),Ls.foldl (comb 4) A v↔A v∨∃L∈Ls,L v
 | [],A=>by simp
 | L::Ls,A=>by
  rw[List.foldl_cons,Rj Ls]
  simp[comb,or_assoc]
theorem Rk {v:List UInt8}: ∀(Ls:List Lg) (A:Lg),Ls.foldl (comb 6) A v↔A v∧∀L∈Ls,L v
 | [],A=>by simp
 | L::Ls,A=>by
  rw[List.foldl_cons,Rk Ls]
  simp[comb,and_assoc]
end Go.AM
set_option maxRecDepth 100000
namespace Go.AM
open Go.Proofs
noncomputable def Rl (C:af) (an aw:Int) (ah:List V):Option (List V):=
 (C DT [.int .i64 an,.int .i64 aw,.list aa ah,.int .i64 6]).bind fun r1=>
 some [.bool ((((V.nth r1 0).toInt):Int)==0)]
theorem ac8 {an aw:Int} {ah:List V} {r:Option (List V)} (h:Rl CC an aw ah=r):CC zk [.int .i64 an,.int .i64 aw,.list aa ah]=r:=
 bd (key:=44) (L:=cr) (bs:=[]) (by kernel_rfl) az (ba (by kernel_rfl) h)
noncomputable def Rm (C:af) (an aw:Int) (ah:List V):Option (List V):=
 (C DK [.int .i64 an,.int .i64 aw,.list aa ah,.int .i64 6]).bind fun r1=>
 some [.bool ((((V.nth r1 0).toInt):Int)==0)]
theorem ac9 {an aw:Int} {ah:List V} {r:Option (List V)} (h:Rm CC an aw ah=r):CC DQ [.int .i64 an,.int .i64 aw,.list aa ah]=r:=
 bd (key:=40) (L:=cr) (bs:=[]) (by kernel_rfl) az (ba (by kernel_rfl) h)
noncomputable def Rn (C:af) (an aw:Int) (ah:List V):Option (List V):=
 (C rk [.int .i64 an,.int .i64 aw,.list aa ah,.int .i64 400]).bind fun r1=>
 some [.int .i64 ((V.nth r1 0).toInt)]
theorem ada {an aw:Int} {ah:List V} {r:Option (List V)} (h:Rn CC an aw ah=r):CC DL [.int .i64 an,.int .i64 aw,.list aa ah]=r:=
 bd (key:=7) (L:=cr) (bs:=[]) (by kernel_rfl) az (ba (by kernel_rfl) h)
end Go.AM
set_option maxRecDepth 100000
namespace Go.AM
open Go.Proofs Ex
theorem AF (m n:Int):(m==n)=decide (m=n):=by rw[qC];simp
theorem Ro (e:Ex) (h:e.Ok):CC zk (c6 e [])=some [.bool (decide (e.val 6=0))]:=by
 refine ac8 ?_
 unfold Rl
 rw[aaZ e h]
 simp only[Option.bind_some,V.aI,V.toInt_int]
 rw[AF]
theorem adb (e:Ex) (h:e.Ok):CC DQ (c6 e [])=some [.bool (decide (e.val 6=0))]:=by
 refine ac9 ?_
 unfold Rm
 rw[aa0 e h]
 simp only[Option.bind_some,V.aI,V.toInt_int]
 rw[AF]
theorem wL {e:Ex} (h:e.val 6=0):e.depth≤40∧e.size≤400∧e.wf 6=true:=by
 unfold Ex.val at h
 rw[ag (by omega)] at h
 split at h
 ·rename_i h1
  split at h
  ·rename_i U;exact ⟨h1.1,h1.2,U⟩
  ·omega
 ·omega
theorem JZ {ks:List Ex}: ∀{k},k∈ks→k.size≤bt ks:=by
 induction ks with
 | nil=>intro k h;simp at h
 | cons a ks ih=>
  intro k h
  simp only[bt]
  rcases eH.1 h with rfl|h
  ·omega
  ·have:=ih h;omega
theorem ade {au:Int} {ks:List Ex} (h:gk au ks=true): ∀k∈ks,k.wf au=true:=by
 induction ks with
 | nil=>simp
 | cons a ks ih=>
  simp only[gk,aM] at h
  intro k hk
  rcases eH.1 hk with rfl|hk
  ·exact h.1
  ·exact ih h.2 k hk
theorem qg {au o l:Int} {ks:List Ex} (h:(Ex.node o l ks).wf au=true):iy o l ks.length au=true∧∀k∈ks,k.wf au=true:=by
 simp only[Ex.wf,aM] at h
 exact ⟨h.1,ade h.2⟩
theorem adf (e:Ex) (h:e.Ok) (hs:e.size≤400):CC DL (c6 e [])=some [.int .i64 e.size]:=by
 obtain ⟨d,e1,e2⟩:=Jz e h 400 (by omega) (by omega)
 refine ada ?_
 unfold Rn
 rw[e1,show min (e.size:Int) (400+1)=e.size by omega]
 simp
end Go.AM
set_option maxRecDepth 100000
namespace Go.AM
open Go.Proofs
noncomputable def Rp (C:af) (an aw:Int) (ah:List V) (w:List UInt8):Option (List V):=
 (C zk [.int .i64 an,.int .i64 aw,.list aa ah]).bind fun r1=>
 bif !((V.nth r1 0).toBool) then
  some [.bool false]
 else
  (C DS [.str w,.int .i64 6]).bind fun r2=>
  bif !((V.nth r2 0).toBool) then
  some [.bool false]
  else
  (C nq [.str w]).bind fun r3=>
  (C tj [.int .i64 0,.list aJ ((V.nth r3 0).toList)]).bind fun r4=>
  (C lr [.str w,.int .i64 an,.int .i64 aw,.list aa ah,.list aJ ((V.nth r4 0).toList)]).bind fun r5=>
  bif decide (0<(((V.nth r5 0).toList).length:Int)) then
   (((V.nth r5 0).toList)[0]?).bind fun x6=>
   (cM Tryz.prog aD ((V.nth r5 0).toList) [(0,0)]).bind fun x7=>
   (C vR [.list aJ x7.toList,.int .i64 (w.length:Int)]).bind fun r8=>
   some [.bool ((V.nth r8 0).toBool)]
  else none
theorem adg {an aw:Int} {ah:List V} {w:List UInt8} {r:Option (List V)} (h:Rp CC an aw ah w=r):CC zj [.int .i64 an,.int .i64 aw,.list aa ah,.str w]=r:=
 bd (key:=14) (L:=cr) (bs:=[]) (by kernel_rfl) az (ba (by kernel_rfl) h)
end Go.AM
set_option maxRecDepth 100000
namespace Go.AM
open Go.Proofs Ex
theorem adh {w:List UInt8} {F:Nat} (hw:w.length≤2048) (hF:In w F):
  ∃a:Nat,CC QD [uV w F,.int .i64 ((w.length+1:Nat):Int)]=some [.int .i64 (a:Int)]∧a≤w.length+1∧∀i,F.testBit i=true→a≤i:=by
 obtain ⟨_,hc,a,rfl,h1,U⟩:=ab3 (m:=mW w) (F:=F) (lE hw)
  (P:=fun t z=> ∃a:Nat,z=(a:Int)∧a≤w.length+1∧∀i,i<t→F.testBit i=true→a≤i)
  (fun t z ht cS hP=>by
   obtain ⟨a,rfl,h1,U⟩:=hP
   refine ⟨_,acw,_,rfl,by omega,fun i hi hb=> ?_⟩
   by_cases e:i=t
   ·subst e;omega
   ·have:=U i (by omega) hb;omega)
  (fun t z cS hP=>by
   obtain ⟨a,h,h1,U⟩:=hP
   refine ⟨a,h,h1,fun i hi hb=> ?_⟩
   have:i≠t:=by rintro rfl;rw[cS] at hb;cases hb
   exact U i (by omega) hb)
  ((w.length+1:Nat):Int) ⟨_,rfl,bQ _,fun _ h=>by omega⟩
 exact ⟨a,hc,h1,fun i hi=>U i (by have:=hF i hi;have:= @Au w;omega) hi⟩
theorem adi {w:List UInt8} {k0 k1:Int} {k2:List V} {a:Nat} (hw:w.length≤2048):
  ∀d c S,a≤c→c+d=w.length+1→(∀x,S.testBit x=true↔a≤x∧x<c)→
  ∃S':Nat,Loop (Ax CC w k0 k1 k2 (a:Int)) ((c:Int),aZ (mW w) S)=some (((w.length+1:Nat):Int),false,aZ (mW w) S')∧∀x,S'.testBit x=true↔a≤x∧x≤w.length:=by
 intro d
 induction d with
 | zero=>
  intro c S _ hc hS
  have hc:c=w.length+1:=by omega
  subst hc
  refine ⟨S,bq ?_,fun x=>(hS x).trans ⟨fun h=>by omega,fun h=>by omega⟩⟩
  simp only[Ax,Aw,un]
  rw[av,ai (by omega),c7 (by omega)]
 | succ d ih=>
  intro c S ha hc hS
  have bL:Ax CC w k0 k1 k2 (a:Int) ((c:Int),aZ (mW w) S)=some (.inl (((c+1:Nat):Int),aZ (mW w) (S|||2^c))):=by
   simp only[Ax,Aw,un]
   rw[av,ag (by omega),JC (nB (by omega)) (by omega)]
   simp only[Option.bind_some,V.aI,V.bR]
   rw[wrap64 (by omega) (by omega)]
   rfl
  rw[ct bL]
  refine ih (c+1) _ (by omega) (by omega) fun x=> ?_
  rw[wA,hS x,wB]
  omega
theorem adj {w:List UInt8} {A:Lg} {i S:Nat} {Rt:Nat→Option Nat} (hw:w.length≤2048) (hi:i≤w.length)
  (hS: ∀j,S.testBit j=true↔Pt w A i j) (hR: ∀j,i<j→j≤w.length→∃T:Nat,Rt j=some T∧∀x,T.testBit x=true↔Pt w (dr A) j x):
  ∃O:Nat,CC QF [uV w S,uV w (2^i),oV w Rt]=some [oV w Rt,uV w O]∧∀x,O.testBit x=true↔Pt w (dr A) i x:=by
 have Rq:In w S:=PN hS
 obtain ⟨_,hc,O,rfl,hO⟩:=ab7 (m:=mW w) (F:=S) (lE hw)
  (P:=fun t a=> ∃O:Nat,a=(Rows (mW w) (w.length+1) Rt,aZ (mW w) O)∧∀x,O.testBit x=true↔x=i∨∃j,j<t∧i<j∧S.testBit j=true∧Pt w (dr A) j x)
  (fun t a ht cS hP=>by
   obtain ⟨O,rfl,hO⟩:=hP
   have J0:=Rq t cS
   have hit:=((hS t).1 cS).1
   by_cases AG:O.testBit t=true
   ·refine ⟨(_,_),QW (S:=0) hw J0 (fun h=>by rw[AG] at h;cases h) (fun _ _=>by simp),_,rfl,fun x=> ?_⟩
    rw[ag AG,hO x]
    constructor
    ·rintro (h|⟨j,h1,U⟩)
     ·exact .inl h
     ·exact .inr ⟨j,by omega,U⟩
    ·rintro (h|⟨j,h1,U,h3,h4⟩)
     ·exact .inl h
     ·by_cases e:j=t
      ·subst e
       rcases (hO j).1 AG with h|⟨j',g1,g2,g3,g4⟩
       ·omega
       ·exact .inr ⟨j',g1,g2,g3,JB g4 h4⟩
      ·exact .inr ⟨j,by omega,U,h3,h4⟩
   ·have bA: ¬t=i:=fun e=>AG ((hO t).2 (.inl e))
    obtain ⟨T,q1,q2⟩:=hR t (by omega) J0
    refine ⟨(_,_),QW (S:=T) hw J0 (fun _=>q1) (fun x hx=>PO q2 fun h=>by have:=h.1;omega),_,rfl,fun x=> ?_⟩
    rw[ai AG,wA,hO x,q2 x]
    constructor
    ·rintro ((h|⟨j,h1,U⟩)|h)
     ·exact .inl h
     ·exact .inr ⟨j,by omega,U⟩
     ·exact .inr ⟨t,by omega,by omega,cS,h⟩
    ·rintro (h|⟨j,h1,U,h3,h4⟩)
     ·exact .inl (.inl h)
     ·by_cases e:j=t
      ·subst e;exact .inr h4
      ·exact .inl (.inr ⟨j,by omega,U,h3,h4⟩))
  (fun t a cS hP=>by
   obtain ⟨O,h,hO⟩:=hP
   refine ⟨O,h,fun x=>(hO x).trans ⟨?_,?_⟩⟩
   ·rintro (h|⟨j,h1,U⟩)
    ·exact .inl h
    ·exact .inr ⟨j,by omega,U⟩
   ·rintro (h|⟨j,h1,U,h3,h4⟩)
    ·exact .inl h
    ·have:j≠t:=by rintro rfl;rw[cS] at h3;cases h3
     exact .inr ⟨j,by omega,U,h3,h4⟩)
  (Rows (mW w) (w.length+1) Rt,aZ (mW w) (2^i)) ⟨_,rfl,fun x=>by rw[wB];exact ⟨.inl,fun h=>by rcases h with h|⟨j,h,_⟩;exact h;omega⟩⟩
 refine ⟨O,hc,fun x=>(hO x).trans ?_⟩
 rw[aa5]
 constructor
 ·rintro (h|⟨j,h1,U,h3,h4⟩)
  ·exact .inl ⟨h.symm,by omega⟩
  ·exact .inr ⟨j,U,(hS j).1 h3,h4⟩
 ·rintro (⟨h,_⟩|⟨j,U,h3,h4⟩)
  ·exact .inl h.symm
  ·have:=(hS j).2 h3
   exact .inr ⟨j,by have:=Rq j this;have:= @Au w;omega,U,this,h4⟩
theorem adk {w:List UInt8} {A:Lg} {a Z:Nat} {R1:Nat→Option Nat} (hw:w.length≤2048) (ha:a≤w.length+1) (hZ: ∀x,Z.testBit x=true↔a≤x∧x≤w.length) (J1:Ends w Z R1 A):
  ∀d c Rt,a≤c→c=a+d→c≤w.length+1→(∀j,c≤j→j≤w.length→∃T:Nat,Rt j=some T∧∀x,T.testBit x=true↔Pt w (dr A) j x)→
  ∃R',Loop (wK CC w (a:Int) (Rows (mW w) (w.length+1) R1)) ((c:Int)-1,Rows (mW w) (w.length+1) Rt)=some ((a:Int)-1,false,Rows (mW w) (w.length+1) R')∧
   ∀j,a≤j→j≤w.length→∃T:Nat,R' j=some T∧∀x,T.testBit x=true↔Pt w (dr A) j x:=by
 intro d
 induction d with
 | zero=>
  intro c Rt _ hc _ hR
  have hc:c=a:=by omega
  subst hc
  refine ⟨Rt,bq ?_,hR⟩
  simp only[wK,Ay,un]
  rw[av,ai (by omega),c7 (by omega)]
 | succ d ih=>
  intro c Rt hac hc UZ hR
  obtain ⟨i,rfl⟩: ∃i,c=i+1:=⟨c-1,by omega⟩
  have iq:i≤w.length:=by omega
  obtain ⟨S,g1,g2⟩:=J1 i ((hZ i).2 ⟨by omega,iq⟩)
  obtain ⟨O,c3,hO⟩:=adj hw iq g2 (Rt:=Rt) fun j h1 U=>hR j (by omega) U
  have bL:wK CC w (a:Int) (Rows (mW w) (w.length+1) R1) (((i+1:Nat):Int)-1,Rows (mW w) (w.length+1) Rt)=some (.inl ((i:Int)-1,Rows (mW w) (w.length+1) (upd Rt i O))):=by
   have e:((i+1:Nat):Int)-1=(i:Int):=by omega
   rw[e]
   simp only[wK,Ay,un]
   rw[av,ag (by omega),rG hw]
   simp only[Option.bind_some,V.aI,V.bR]
   rw[JC (nB iq) (by omega)]
   simp only[Option.bind_some,V.aI,V.bR,Nat.zero_or,ca,av,Int.toNat_natCast,jy,iS (show i<w.length+1 by omega),oK (show i<w.length+1 by omega) g1]
   have t7:(0:Int)≤(i:Int):=by omega
   have t8:(i:Int)<((w.length+1:Nat):Int):=by omega
   simp only[t7,t8,cP]
   refine (congrArg (fun o=>Option.bind o _) c3).trans ?_
   simp only[Option.bind_some,dG,dh,V.aI,V.bR,jy,iS (show i<w.length+1 by omega),tG,t7,t8,cP]
   rw[wrap64 (by omega) (by omega)]
  rw[ct bL]
  refine ih i _ (by omega) (by omega) (by omega) fun j h1 U=> ?_
  by_cases e:j=i
  ·subst e;exact ⟨O,Ew,hO⟩
  ·rw[JF e];exact hR j (by omega) U
theorem adl {w:List UInt8} {F:Nat} {k:Ex} (hw:w.length≤2048) (hF:In w F) (hk:oP w k):
  ∃R,CC DX (.str w::c6 k [uV w F])=some [oV w R]∧Ends w F R (dr k.a9):=by
 obtain ⟨a,c1,ha,CQ⟩:=adh hw hF
 obtain ⟨Z,c2,hZ⟩:=adi (k0:=k.op) (k1:=k.letter) (k2:=k.kids.map enc) (a:=a) hw (w.length+1-a) a 0 (bQ _) (by omega) (fun x=>⟨fun h=>by simp at h,fun h=>by omega⟩)
 obtain ⟨R1,c3,J1⟩:=hk Z fun x hx=>((hZ x).1 hx).2
 obtain ⟨R',c4,qf⟩:=adk hw ha hZ J1 (w.length+1-a) (w.length+1) (fun _=>none) ha (by omega) (bQ _) (fun j h1 U=>by omega)
 refine ⟨R',acS ?_,fun i hi=>qf i (CQ i hi) (hF i hi)⟩
 unfold Q9
 have e1:IntKind.wrap .i64 ((w.length:Int)+1)=((w.length+1:Nat):Int):=by rw[wrap64 (by omega) (by omega)];rfl
 rw[rG hw,e1]
 simp only[Option.bind_some,V.aI,V.bR]
 refine (congrArg (fun o=>Option.bind o _) c1).trans ?_
 simp only[Option.bind_some,V.aI,V.toInt_int]
 refine (congrArg (fun o=>Option.bind o _) c2).trans ?_
 simp only[Option.bind_some,un]
 refine (congrArg (fun o=>Option.bind o _) c3).trans ?_
 simp only[Option.bind_some,V.aI,V.bR,ca,av,DE,Int.toNat_natCast]
 rw[ag (by omega),ag (by omega),ag (by rw[wh];omega)]
 have e2:(w.length:Int)=((w.length+1:Nat):Int)-1:=by omega
 rw[Qd (m:=mW w)]
 have c5:Loop (wK CC w (a:Int) (Rows (mW w) (w.length+1) R1)) ((w.length:Int),Rows (mW w) (w.length+1) fun _=>none)=some ((a:Int)-1,false,Rows (mW w) (w.length+1) R'):=by rw[e2];exact c4
 refine (congrArg (fun o=>Option.bind o _) c5).trans ?_
 rfl
theorem adm {w:List UInt8} (hw:w.length≤2048) (hl: ∀i,i<w.length→0≤ft w i): ∀e:Ex,e.Ok→e.wf 6=true→oP w e:=
 ind fun o l ks ih ar Hw F hF=>by
  obtain ⟨hs,hwk⟩:=qg Hw
  have hk: ∀k∈ks,oP w k:=fun k hk=>ih k hk (ar.oJ k hk) (hwk k hk)
  have hlen:=ar.len
  have l7:=ru
  show∃R,CC lr [.str w,.int .i64 o,.int .i64 l,.list aa (ks.map enc),uV w F]=some [oV w R]∧Ends w F R (Ex.node o l ks).a9
  rw[kK]
  unfold iy at hs
  have e1:IntKind.wrap .i64 ((w.length:Int)+1)=((w.length+1:Nat):Int):=by rw[wrap64 (by omega) (by omega)];rfl
  have base:(o=1∨o=2∨o=3)→∃R,CC lr [.str w,.int .i64 o,.int .i64 l,.list aa (ks.map enc),uV w F]=some [oV w R]∧Ends w F R (ec o l (ks.map a9)):=by
   intro ho
   obtain ⟨R,hc,hR⟩:=ac0 (l:=l) (ks:=ks.map enc) hw hl ho hF
   have el:ec o l (ks.map a9)=ec o l []:=by
    funext v;unfold ec
    rcases ho with rfl|rfl|rfl<;>simp
   refine ⟨R,wH ?_,by rw[el];exact hR⟩
   unfold tU
   rw[e1]
   simp only[dy,ca,av,DE,Int.toNat_natCast]
   rw[ai (by omega),ai (by omega),ai (by omega),ai (by omega),ai (by omega),ag (by omega),ag (by omega),ag (by rw[wh];omega)]
   rw[Qd (m:=mW w)]
   refine (congrArg (fun o=>Option.bind o _) hc).trans ?_
   simp only[Option.bind_some,dG,dh,V.aI,V.bR]
  by_cases h3:o=3
  ·exact base (by omega)
  rw[ai h3] at hs
  simp only[aM] at hs
  obtain ⟨_,hs⟩:=hs
  by_cases Rr:o=1∨o=2
  ·exact base (by omega)
  rw[ai Rr] at hs
  by_cases J2:o=7∨o=8
  ·rw[ag J2] at hs
   have hs:=iB hs
   obtain ⟨k,rfl⟩: ∃k,ks=[k]:=by
    match ks,hs with
    | [k],_=>exact ⟨k,rfl⟩
    | [],h=>simp at h
    | _::_::_,h=>simp at h;omega
   rcases J2 with rfl|rfl
   ·obtain ⟨R,hc,hR⟩:=adl hw hF (hk k (by simp))
    refine ⟨R,wH ?_,by
     have:ec 7 l ([k].map a9)=dr k.a9:=by funext v;simp[ec,qa]
     rw[this];exact hR⟩
    unfold tU
    simp only[dy]
    rw[ai (by omega),ag trivial]
    simp only[dB,nJ,List.getElem?_cons_zero,Option.bind_some,bI,bJ,bK]
    refine (congrArg (fun o=>Option.bind o _) hc).trans ?_
    simp only[Option.bind_some,V.aI,V.bR]
   ·obtain ⟨R0,CT,Gi⟩:=hk k (by simp) F hF
    obtain ⟨R,hc,hR⟩:=ac1 hw hF CT Gi
    refine ⟨R,wH ?_,by
     have:ec 8 l ([k].map a9)=fun v=> ¬k.a9 v:=by funext v;simp[ec,qa]
     rw[this];exact hR⟩
    unfold tU
    simp only[dy]
    rw[ai (by omega),ai (by omega),ai (by omega),ai (by omega),ag trivial]
    simp only[dB,nJ,List.getElem?_cons_zero,Option.bind_some,bI,bJ,bK]
    refine (congrArg (fun o=>Option.bind o _) hc).trans ?_
    simp only[Option.bind_some,V.aI,V.bR]
  ·rw[ai J2] at hs
   obtain ⟨h4,h6,hn⟩:=iB hs
   match ks,hn,hk,hlen with
   | k::rest,hn,hk,hlen=>
    have kJ:=hk k (by simp)
    have oh: ∀k'∈rest,oP w k':=fun k' h=>hk k' (by simp[h])
    have J3:rest.length≤maxLen:=by simp at hlen;omega
    have adn:o=4∨o=5∨o=6:=by omega
    rcases adn with rfl|rfl|rfl
    ·obtain ⟨R,hc,hR⟩:=Ri (o:=4) (l:=l) hw hF J3 kJ oh
     refine ⟨R,wH ?_,by
      have:ec 4 l ((k::rest).map a9)=(rest.map a9).foldl (comb 4) k.a9:=by
       funext v;refine propext ?_;rw[Rj];simp[ec]
      rw[this];exact hR⟩
     unfold tU
     simp only[dy]
     rw[ai (by omega),ai (by omega),ag trivial,ag trivial]
     refine (congrArg (fun o=>Option.bind o _) hc).trans ?_
     simp only[Option.bind_some,V.aI,V.bR]
    ·obtain ⟨R,hc,hR⟩:=ac5 hw hF J3 kJ oh
     refine ⟨R,wH ?_,by
      have:ec 5 l ((k::rest).map a9)=zK ((k::rest).map a9):=by funext v;simp[ec]
      rw[this];exact hR⟩
     unfold tU
     simp only[dy]
     rw[ag trivial]
     refine (congrArg (fun o=>Option.bind o _) hc).trans ?_
     simp only[Option.bind_some,V.aI,V.bR]
    ·obtain ⟨R,hc,hR⟩:=Ri (o:=6) (l:=l) hw hF J3 kJ oh
     refine ⟨R,wH ?_,by
      have:ec 6 l ((k::rest).map a9)=(rest.map a9).foldl (comb 6) k.a9:=by
       funext v;refine propext ?_;rw[Rk];simp[ec]
      rw[this];exact hR⟩
     unfold tU
     simp only[dy]
     rw[ai (by omega),ai (by omega),ai (by omega),ag trivial]
     refine (congrArg (fun o=>Option.bind o _) hc).trans ?_
     simp only[Option.bind_some,V.aI,V.bR]
noncomputable def tW (e:Ex) (w:List UInt8):Bool:= @decide (e.val 6=0∧tB w 6∧e.a9 w) (Classical.propDecidable _)
theorem AH {e:Ex} {w:List UInt8}:tW e w=true↔e.val 6=0∧tB w 6∧e.a9 w:=by
 unfold tW
 exact ⟨fun h=> @iB _ (Classical.propDecidable _) h,fun h=> @nM _ (Classical.propDecidable _) h⟩
theorem Rs (e:Ex) (h:e.Ok) (w:List UInt8):CC zj (c6 e [.str w])=some [.bool (tW e w)]:=by
 refine adg ?_
 unfold Rp
 refine (congrArg (fun o=>Option.bind o _) (Ro e h)).trans ?_
 simp only[Option.bind_some,V.aI,V.cK,fH,av]
 by_cases h1:e.val 6=0
 ·rw[ag h1,aba]
  simp only[Option.bind_some,V.aI,V.cK,av]
  by_cases U:tB w 6
  ·rw[ag U]
   have hw:=U.2.2.1
   have hl: ∀i,i<w.length→0≤ft w i:=fun i hi=>(U.2.2.2 i hi).1
   obtain ⟨R,hc,hR⟩:=adm hw hl e h (wL h1).2.2 (2^0) (fun i hi=>by rw[wB] at hi;omega)
   obtain ⟨S,g1,g2⟩:=hR 0 (wB.2 rfl)
   rw[rG hw]
   simp only[Option.bind_some,V.aI,V.bR]
   have ha:=JC (m:=mW w) (S:=0) (i:=0) (by unfold mW;omega) (by omega)
   refine (congrArg (fun o=>Option.bind o _) ha).trans ?_
   simp only[Option.bind_some,V.aI,V.bR,Nat.zero_or]
   refine (congrArg (fun o=>Option.bind o _) hc).trans ?_
   simp only[Option.bind_some,V.aI,V.bR,jy,iS (show 0<w.length+1 by omega),oK (show 0<w.length+1 by omega) g1]
   rw[ag (by omega),JD (nB (bQ _)) (by omega)]
   simp only[Option.bind_some,V.aI,V.cK]
   congr 3
   rw[qC,g2,AH]
   unfold Pt
   rw[aa1]
   exact ⟨fun h=>⟨h1,U,h.2.2⟩,fun h=>⟨by omega,bQ _,h.2.2⟩⟩
  ·rw[ai U]
   have:tW e w=false:=by rw[←Bool.not_eq_true,AH];exact fun h=>U h.2.1
   rw[this]
 ·rw[ai h1]
  have:tW e w=false:=by rw[←Bool.not_eq_true,AH];exact fun h=>h1 h.1
  rw[this]
end Go.AM
set_option maxRecDepth 100000
namespace Go.AM
open Go.Proofs
noncomputable def Ru (C:af) (oQ oR:Int) (qh:List V) (oS oT:Int) (qi:List V):Option (List V):=
 bif (oQ:Int) != oS then
  (C vU [.int .i64 oQ,.int .i64 oS]).bind fun r1=>
  some [.int .i64 ((V.nth r1 0).toInt)]
 else
  bif (oR:Int) != oT then
  (C vU [.int .i64 oR,.int .i64 oT]).bind fun r2=>
  some [.int .i64 ((V.nth r2 0).toInt)]
  else
  (C DU [.list aa qh,.list aa qi]).bind fun r3=>
  some [.int .i64 ((V.nth r3 0).toInt)]
theorem ado {oQ oR:Int} {qh:List V} {oS oT:Int} {qi:List V} {r:Option (List V)} (h:Ru CC oQ oR qh oS oT qi=r):CC bc [.int .i64 oQ,.int .i64 oR,.list aa qh,.int .i64 oS,.int .i64 oT,.list aa qi]=r:=
 bd (key:=29) (L:=cr) (bs:=[]) (by kernel_rfl) az (ba (by kernel_rfl) h)
noncomputable abbrev Rv:Code:=bZ Tryz.prog (ay.aX 66)
noncomputable def tX (C:af) (s1 s2 t11:List V) (t12 t13:Int) {β:Type} (kn:Int→Option β) (kr:((Int) ⊕ (Int × Bool))→Option β):Option β:=
 bif decide ((t13:Int)<t12) then
  (idx t11 t13).bind fun x1=>
  bif decide ((t13:Int)≥(s2.length:Int)) then
  kr (.inl 1)
  else
  (idx s2 t13).bind fun x2=>
  (C bc [.int .i64 ((x1.cell 0).toInt),.int .i64 ((x1.cell 1).toInt),.list aa ((x1.cell 2).toList),.int .i64 ((x2.cell 0).toInt),.int .i64 ((x2.cell 1).toInt),.list aa ((x2.cell 2).toList)]).bind fun r3=>
  bif (((V.nth r3 0).toInt):Int) != 0 then
   kr (.inl ((V.nth r3 0).toInt))
  else
   kn (IntKind.wrap .i64 (t13+1))
 else
  kr (.inr (t13,decide ((t13:Int)<t12)))
noncomputable def rH (C:af) (s1 s2 t11:List V) (t12:Int):(Int)→Option ((Int) ⊕ ((Int) ⊕ (Int × Bool))):=fun t13=>tX C s1 s2 t11 t12 t13 (fun y=>some (.inl y)) (fun r=>some (.inr r))
noncomputable def Rw (C:af):cw:=fun β n ds k=>
 bif Nat.beq n 33 then bS Im [false,false,false,false,true] [[0],[1,2,3,4,0,0]] (@tX C) ds k else
 none
abbrev adp (C:af) (b:cp):Prop:=cq Tryz.prog ay C (Rw C) 66 (cH Tryz.prog (ay.aX 66)) (ay.sin 66).aY.length b
theorem adq (C:af):adp C (.loop (ax [1,0,1,0,0] Rv)):=
 bX Im [false,false,false,false,true] [[0],[1,2,3,4,0,0]] (@tX C) (by kernel_rfl) (bn (bs:=[]) (by kernel_rfl) az) (fun ds=>by kernel_rfl) (fun i x=>by kernel_rfl) (fun i x β k=>by kernel_rfl) (fun β ds k=>by kernel_rfl)
noncomputable def Rx (C:af) (s1 s2:List V):Option (List V):=
 (Loop (rH C s1 s2 s1 (s1.length:Int)) 0).bind (cY (fun (tA:Int)=>
  some [.int .i64 tA]) (un fun (iw:Int) (wj:Bool)=>
  bif decide (((s1.length:Int):Int)<(s2.length:Int)) then
   some [.int .i64 (-1)]
  else
   some [.int .i64 0]))
theorem adr {s1 s2:List V} {r:Option (List V)} (h:Rx CC s1 s2=r):CC DU [.list aa s1,.list aa s2]=r:=
 bd (key:=66) (L:=Rw CC) (bs:=[.loop (ax [1,0,1,0,0] Rv)]) (by kernel_rfl) (bD (adq CC) az) (ba (by kernel_rfl) h)
noncomputable def Ry (C:af) (x y:Int):Option (List V):=
 (C zq [.int .i64 x]).bind fun r1=>
 (C zq [.int .i64 y]).bind fun r2=>
 bif (V.nth r1 0).toBool then
  bif (V.nth r2 0).toBool then
  some [.int .i64 0]
  else
  some [.int .i64 (-1)]
 else
  bif (V.nth r2 0).toBool then
  some [.int .i64 1]
  else
  bif decide ((x:Int)<y) then
   some [.int .i64 (-1)]
  else
   bif decide ((x:Int)>y) then
   some [.int .i64 1]
   else
   some [.int .i64 0]
theorem ads {x y:Int} {r:Option (List V)} (h:Ry CC x y=r):CC vU [.int .i64 x,.int .i64 y]=r:=
 bd (key:=65) (L:=cr) (bs:=[]) (by kernel_rfl) az (ba (by kernel_rfl) h)
noncomputable def Rz (C:af) (x:Int):Option (List V):=
 some [.bool ((x:Int) != x)]
theorem adt {x:Int} {r:Option (List V)} (h:Rz CC x=r):CC zq [.int .i64 x]=r:=
 bd (key:=96) (L:=cr) (bs:=[]) (by kernel_rfl) az (ba (by kernel_rfl) h)
end Go.AM
set_option maxRecDepth 100000
namespace Go.AM
open Go.Proofs Ex
def hD (less:Bool):Int:=if less then-1 else 1
mutual
def Ex.cmp:Ex→Ex→Int
 | .node o l ks,e=>if o≠e.op then hD (decide (o<e.op)) else if l≠e.letter then hD (decide (l<e.letter)) else dV ks e.kids
def Ex.dV:List Ex→List Ex→Int
 | [],[]=>0
 | [],_::_=> -1
 | _::_,[]=>1
 | k::ks,k'::cg=>if cmp k k'≠0 then cmp k k' else dV ks cg
end
theorem wM (o l o' l':Int) (ks cg:List Ex):cmp (.node o l ks) (.node o' l' cg)=if o≠o' then hD (decide (o<o')) else if l≠l' then hD (decide (l<l')) else dV ks cg:=by
 rw[cmp];rfl
theorem RA (b:Bool):hD b= -1∨hD b=1:=by cases b<;>simp[hD]
theorem adu (ks:List Ex) (ih: ∀k∈ks,cmp k k=0):dV ks ks=0:=by
 induction ks with
 | nil=>simp[dV]
 | cons k ks py=>simp[dV,ih k (by simp),py fun k hk=>ih k (by simp[hk])]
theorem AI: ∀e:Ex,cmp e e=0:=ind fun o l ks ih=>by
 rw[wM];simp[adu ks ih]
theorem RB {a b:Int} (h:a≠b):hD (decide (b<a))= -hD (decide (a<b)):=by
 by_cases h1:a<b
 ·have: ¬b<a:=by omega
  simp[hD,h1,this]
 ·have:b<a:=by omega
  simp[hD,h1,this]
theorem adv (ks:List Ex) (ih: ∀k∈ks,∀e,cmp e k= -cmp k e): ∀cg,dV cg ks= -dV ks cg:=by
 induction ks with
 | nil=>intro cg;cases cg<;>simp[dV]
 | cons k ks py=>
  intro cg
  cases cg with
  | nil=>simp[dV]
  | cons k' cg=>
   simp only[dV,ih k (by simp) k',py (fun k hk=>ih k (by simp[hk])) cg]
   by_cases h:cmp k k'=0
   ·simp[h]
   ·have: -cmp k k'≠0:=by omega
    simp[h,this]
theorem rI: ∀e e':Ex,cmp e' e= -cmp e e':=
 ind fun o l ks ih e'=>by
  obtain ⟨o',l',cg⟩:=e'
  rw[wM,wM]
  by_cases h1:o=o'
  ·subst h1
   by_cases U:l=l'
   ·subst U
    simp[adv ks ih]
   ·have h2':l'≠l:=fun e=>U e.symm
    simp only[ne_eq,mP,fa,U,h2',xw,cP];exact RB U
  ·have jn:o'≠o:=fun e=>h1 e.symm
   simp only[ne_eq,h1,jn,xw,cP];exact RB h1
theorem adw (ks:List Ex) (ih: ∀k∈ks,∀e,cmp k e=0→k=e): ∀cg,dV ks cg=0→ks=cg:=by
 induction ks with
 | nil=>intro cg h;cases cg<;>simp[dV] at h⊢
 | cons k ks py=>
  intro cg h
  cases cg with
  | nil=>simp[dV] at h
  | cons k' cg=>
   simp only[dV] at h
   by_cases h1:cmp k k'=0
   ·rw[ih k (by simp) k' h1,py (fun k hk=>ih k (by simp[hk])) cg (by simpa[h1] using h)]
   ·simp[h1] at h
theorem tY: ∀e e':Ex,cmp e e'=0→e=e':=
 ind fun o l ks ih e' h=>by
  obtain ⟨o',l',cg⟩:=e'
  rw[wM] at h
  have s1:=RA (decide (o<o'))
  have s2:=RA (decide (l<l'))
  by_cases h1:o=o'
  ·by_cases U:l=l'
   ·rw[h1,U,adw ks ih cg (by simpa[h1,U] using h)]
   ·have bA:hD (decide (l<l'))≠0:=by omega
    rw[ai (by simp[h1]),ag U] at h
    exact absurd h bA
  ·have bA:hD (decide (o<o'))≠0:=by omega
   rw[ag h1] at h
   exact absurd h bA
theorem adx (a:List Ex) (ih: ∀k∈a,∀b c,cmp k b≤0→cmp b c≤0→cmp k c≤0): ∀b c,dV a b≤0→dV b c≤0→dV a c≤0:=by
 induction a with
 | nil=>intro b c _ _;cases c<;>simp[dV]
 | cons x a py=>
  intro b c h1 U
  cases b with
  | nil=>simp[dV] at h1
  | cons y b=>
   cases c with
   | nil=>simp[dV] at U
   | cons z c=>
    simp only[dV] at h1 U⊢
    have ta:cmp x y≤0:=by by_cases h:cmp x y=0<;>simp[h] at h1⊢;exact h1
    have hyz:cmp y z≤0:=by by_cases h:cmp y z=0<;>simp[h] at U⊢;exact U
    have hxz:=ih x (by simp) y z ta hyz
    by_cases h:cmp x z=0
    ·have:=tY x z h
     subst this
     have h3:=rI x y
     have h4:cmp x y=0:=by omega
     have h5:cmp y x=0:=by omega
     simp only[h,ne_eq,mP,fa]
     simp only[h4,h5,ne_eq,mP,fa] at h1 U
     exact py (fun k hk=>ih k (by simp[hk])) b c h1 U
    ·simp[h];exact hxz
theorem rJ {x y:Int}:hD (decide (x<y))≤0↔x<y:=by
 by_cases h:x<y
 ·simp[hD,h]
 ·simp[hD,h]
theorem J4: ∀a b c:Ex,cmp a b≤0→cmp b c≤0→cmp a c≤0:=
 ind fun o l ks ih b c h1 U=>by
  obtain ⟨o',l',cg⟩:=b
  obtain ⟨J5,pw,aiq⟩:=c
  rw[wM] at h1 U⊢
  by_cases e1:o=o'
  ·subst e1
   by_cases e2:o=J5
   ·subst e2
    simp only[ne_eq,mP,fa] at h1 U⊢
    by_cases e3:l=l'
    ·subst e3
     by_cases e4:l=pw
     ·subst e4
      simp only[ne_eq,mP,fa] at h1 U⊢
      exact adx ks ih _ _ h1 U
     ·simp only[ne_eq,e4,xw,cP] at U⊢
      exact U
    ·rw[ag e3,rJ] at h1
     by_cases e5:l'=pw
     ·subst e5
      rw[ag e3,rJ]
      exact h1
     ·rw[ag e5,rJ] at U
      rw[ag (show l≠pw by omega),rJ]
      omega
   ·simp only[ne_eq,e2,xw,cP] at U⊢
    exact U
  ·rw[ag e1,rJ] at h1
   by_cases e5:o'=J5
   ·subst e5
    rw[ag e1,rJ]
    exact h1
   ·rw[ag e5,rJ] at U
    rw[ag (show o≠J5 by omega),rJ]
    omega
theorem ady (x y:Int):CC vU [.int .i64 x,.int .i64 y]=some [.int .i64 (if x<y then-1 else if y<x then 1 else 0)]:=by
 refine ads ?_
 unfold Ry
 have h: ∀z:Int,CC zq [.int .i64 z]=some [.bool false]:=fun z=>adt (by simp[Rz])
 rw[h,h]
 by_cases h1:x<y
 ·simp[h1]
 ·by_cases U:y<x
  ·simp[h1,U]
  ·simp[h1,U]
theorem RC {x y:Int} (h:x≠y):CC vU [.int .i64 x,.int .i64 y]=some [.int .i64 (hD (decide (x<y)))]:=by
 rw[ady]
 by_cases h1:x<y
 ·simp[hD,h1]
 ·simp[hD,h1,show y<x by omega]
theorem adz {ks cg:List Ex} (hlen:ks.length≤maxLen) (ih: ∀k∈ks,∀e:Ex,e.Ok→CC bc (c6 k (c6 e []))=some [.int .i64 (cmp k e)]) (df: ∀k∈cg,Ex.Ok k):
  ∀(bp pre qj AJ:List Ex),ks=pre++bp→cg=AJ++qj→pre.length=AJ.length→
  (∃c,Loop (rH CC (ks.map enc) (cg.map enc) (ks.map enc) ((ks.map enc).length:Int)) ((pre.length:Nat):Int)=some (.inl c)∧dV bp qj=c)∨
  (∃i b,Loop (rH CC (ks.map enc) (cg.map enc) (ks.map enc) ((ks.map enc).length:Int)) ((pre.length:Nat):Int)=some (.inr (i,b))∧dV bp qj=if ks.length<cg.length then-1 else 0):=by
 intro bp
 induction bp with
 | nil=>
  intro pre qj AJ bN rK tZ
  subst bN
  refine .inr ⟨((pre.length:Nat):Int),false,bq ?_,?_⟩
  ·simp only[rH,tX,eI,bM,av]
   rw[ai (by omega)]
   simp
  ·cases qj with
   | nil=>simp[dV,rK,tZ]
   | cons a l=>simp[dV,rK,tZ]
 | cons k bp nx=>
  intro pre qj AJ bN rK tZ
  have cU:pre.length<ks.length:=by rw[bN];simp
  have:=ru
  have dg:idx (ks.map enc) (pre.length:Int)=some k.enc:=by rw[bN];exact lC _ _ _
  cases qj with
  | nil=>
   refine .inl ⟨1,bq ?_,by simp[dV]⟩
   have hl:cg.length=pre.length:=by rw[rK,tZ];simp
   simp only[rH,tX,bM,av]
   rw[ag (by omega),dg]
   simp only[Option.bind_some]
   rw[ag (by omega)]
  | cons k' qj=>
   have hl:pre.length<cg.length:=by rw[rK,tZ];simp
   have RD:idx (cg.map enc) (pre.length:Int)=some k'.enc:=by rw[rK,tZ];exact lC _ _ _
   have e1:=ih k (by rw[bN];simp) k' (df k' (by rw[rK];simp))
   by_cases hc:cmp k k'=0
   ·have iJ:rH CC (ks.map enc) (cg.map enc) (ks.map enc) ((ks.map enc).length:Int) ((pre.length:Nat):Int)=some (.inl (((pre++[k]).length:Nat):Int)):=by
     simp only[rH,tX,bM,av]
     rw[ag (by omega),dg]
     simp only[Option.bind_some]
     rw[ai (by omega),RD]
     simp only[Option.bind_some,bI,bJ,bK]
     rw[e1,hc]
     simp only[Option.bind_some,V.aI,V.toInt_int,gZ,cP]
     rw[wrap64 (by omega) (by omega)]
     simp
    rw[ct iJ]
    simp only[dV,hc,ne_eq,mP,fa]
    exact nx (pre++[k]) qj (AJ++[k']) (by rw[bN];simp) (by rw[rK];simp) (by simp[tZ])
   ·refine .inl ⟨cmp k k',bq ?_,by simp[dV,hc]⟩
    simp only[rH,tX,bM,av]
    rw[ag (by omega),dg]
    simp only[Option.bind_some]
    rw[ai (by omega),RD]
    simp only[Option.bind_some,bI,bJ,bK]
    rw[e1]
    simp only[Option.bind_some,V.aI,V.toInt_int,gZ,ai hc]
theorem RE: ∀a:Ex,a.Ok→∀b:Ex,b.Ok→CC bc (c6 a (c6 b []))=some [.int .i64 (cmp a b)]:=
 ind fun o l ks ih ar b hb=>by
  obtain ⟨o',l',cg⟩:=b
  refine ado ?_
  unfold Ru
  rw[wM]
  simp only[Ex.op,Ex.letter,Ex.kids,gZ]
  by_cases h1:o=o'
  ·by_cases U:l=l'
   ·rw[ag h1,ag U,ai (by simp[h1]),ai (by simp[U])]
    have hcf:CC DU [.list aa (ks.map enc),.list aa (cg.map enc)]=some [.int .i64 (dV ks cg)]:=by
     refine adr ?_
     unfold Rx
     rcases adz ar.len (fun k hk e he=>ih k hk (ar.oJ k hk) e he) hb.oJ ks [] cg [] rfl rfl rfl with ⟨c,q1,q2⟩|⟨i,b,q1,q2⟩
     ·simp only[List.length_nil,Int.ofNat_zero,Int.natCast_zero] at q1
      erw [q1];rw[q2];rfl
     ·simp only[List.length_nil,Int.ofNat_zero,Int.natCast_zero] at q1
      erw [q1];rw[q2]
      simp only[Option.bind_some,cY,un,bM,av]
      by_cases hl:ks.length<cg.length
      ·rw[ag (by omega),ag hl]
      ·rw[ai (by omega),ai hl]
    rw[hcf]
    simp
   ·rw[ag h1,ai U,ai (by simp[h1]),ag U,RC U]
    simp
  ·rw[ai h1,ag h1,RC h1]
   simp
def bG:Ex:= .node 0 0 []
def gJ (l:List Ex) (x:Ex):Nat→Nat
 | 0=>0
 | k+1=>if cmp x (l.getD k bG)<0 then gJ l x k else k+1
def fV (l:List Ex) (x:Ex):List Ex:=
 let k:=gJ l x l.length
 if 0<k∧cmp (l.getD (k-1) bG) x=0 then l else l.take k++x::l.drop k
theorem J6 (l:List Ex) (x:Ex): ∀k,gJ l x k≤k
 | 0=>bQ _
 | k+1=>by
  unfold gJ;split
  ·exact Nat.le_succ_of_le (J6 l x k)
  ·exact bQ _
theorem EP {l:List Ex} (h: ∀k∈l,k.Ok) {i:Nat} (hi:i<l.length):(l.getD i bG).Ok:=by
 have e:l.getD i bG=l[i]:=by simp[hi]
 rw[e];exact h _ (List.getElem_mem hi)
def bP (op:Int) (l:List Ex):List Ex:=l.flatMap fun k=>if k.op=op then k.kids else [k]
def univ (e:Ex):Bool:=decide (e.op=8∧e.kids.length=1∧(e.kids.getD 0 bG).op=1)
theorem adA {a b:Ex}:cmp a b=0↔a=b:=⟨tY a b,fun h=>by rw[h];exact AI b⟩
instance:DecidableEq Ex:=fun _ _=>decidable_of_iff _ adA
end Go.AM
set_option maxRecDepth 100000
namespace Go.AM
open Go.Proofs
noncomputable abbrev RF:Code:=bZ Tryz.prog (ay.aX 147)
noncomputable def AK (C:af) (op:Int) (t8:List V) (t9 t10:Int) (mC:List V) {β:Type} (kn:(Int × (List V))→Option β) (kr:(Int × Bool × (List V))→Option β):Option β:=
 bif decide ((t10:Int)<t9) then
  (idx t8 t10).bind fun x1=>
  bif (((x1.cell 0).toInt):Int)==op then
  bif Nat.ble ((mC.length+((x1.cell 2).toList).length)*40) dN then
   kn (IntKind.wrap .i64 (t10+1),mC++((x1.cell 2).toList))
  else none
  else
  bif Nat.ble ((mC.length+([.agg [.int .i64 ((x1.cell 0).toInt),.int .i64 ((x1.cell 1).toInt),.list aa ((x1.cell 2).toList)]]:List V).length)*40) dN then
   kn (IntKind.wrap .i64 (t10+1),mC++([.agg [.int .i64 ((x1.cell 0).toInt),.int .i64 ((x1.cell 1).toInt),.list aa ((x1.cell 2).toList)]]:List V))
  else none
 else
  kr (t10,decide ((t10:Int)<t9),mC)
noncomputable def AL (C:af) (op:Int) (t8:List V) (t9:Int):(Int × (List V))→Option ((Int × (List V)) ⊕ (Int × Bool × (List V))):=un fun t10 mC=>AK C op t8 t9 t10 mC (fun y=>some (.inl y)) (fun r=>some (.inr r))
noncomputable def RG (C:af):cw:=fun β n ds k=>
 bif Nat.beq n 49 then bS I6 [false,false,false,true,true] [[1,2,3,0,0,0]] (@AK C) ds k else
 none
abbrev adB (C:af) (b:cp):Prop:=cq Tryz.prog ay C (RG C) 147 (cH Tryz.prog (ay.aX 147)) (ay.sin 147).aY.length b
theorem adC (C:af):adB C (.loop (ax [1,1,0,1,0,0] RF)):=
 bX I6 [false,false,false,true,true] [[1,2,3,0,0,0]] (@AK C) (by kernel_rfl) (bn (bs:=[]) (by kernel_rfl) az) (fun ds=>by kernel_rfl) (fun i x=>by kernel_rfl) (fun i x β k=>by kernel_rfl) (fun β ds k=>by kernel_rfl)
noncomputable def RH (C:af) (op:Int) (kids:List V):Option (List V):=
 (Loop (AL C op kids (kids.length:Int)) (0,([]:List V))).bind (un fun (t_2:Int)=>un fun (lB:Bool) (adD:List V)=>
  some [.list aa adD])
theorem adE {op:Int} {kids:List V} {r:Option (List V)} (h:RH CC op kids=r):CC vX [.int .i64 op,.list aa kids]=r:=
 bd (key:=147) (L:=RG CC) (bs:=[.loop (ax [1,1,0,1,0,0] RF)]) (by kernel_rfl) (bD (adC CC) az) (ba (by kernel_rfl) h)
noncomputable def RI (C:af) (op:Int) (parts:List V) (ER ES:Int) (ET:List V):Option (List V):=
 bif ((parts.length:Int):Int)==0 then
  some [.int .i64 ER,.int .i64 ES,.list aa ET]
 else
  bif ((parts.length:Int):Int)==1 then
  (parts[0]?).bind fun x1=>
  some [.int .i64 ((x1.cell 0).toInt),.int .i64 ((x1.cell 1).toInt),.list aa ((x1.cell 2).toList)]
  else
  some [.int .i64 op,.int .i64 0,.list aa parts]
theorem adF {op:Int} {parts:List V} {ER ES:Int} {ET:List V} {r:Option (List V)} (h:RI CC op parts ER ES ET=r):CC ly [.int .i64 op,.list aa parts,.int .i64 ER,.int .i64 ES,.list aa ET]=r:=
 bd (key:=148) (L:=cr) (bs:=[]) (by kernel_rfl) az (ba (by kernel_rfl) h)
noncomputable def adG (C:af):Option (List V):=
 some [.int .i64 1,.int .i64 0,.list aa ([]:List V)]
theorem adH {r:Option (List V)} (h:adG CC=r):CC oE []=r:=
 bd (key:=150) (L:=cr) (bs:=[]) (by kernel_rfl) az (ba (by kernel_rfl) h)
noncomputable def adI (C:af):Option (List V):=
 some [.int .i64 2,.int .i64 0,.list aa ([]:List V)]
theorem adJ {r:Option (List V)} (h:adI CC=r):CC tn []=r:=
 bd (key:=126) (L:=cr) (bs:=[]) (by kernel_rfl) az (ba (by kernel_rfl) h)
noncomputable def RJ (C:af):Option (List V):=
 (C oE []).bind fun r1=>
 some [.int .i64 8,.int .i64 0,.list aa ([.agg [.int .i64 ((V.nth r1 0).toInt),.int .i64 ((V.nth (r1.drop 1) 0).toInt),.list aa ((V.nth (r1.drop 2) 0).toList)]]:List V)]
theorem adK {r:Option (List V)} (h:RJ CC=r):CC rl []=r:=
 bd (key:=146) (L:=cr) (bs:=[]) (by kernel_rfl) az (ba (by kernel_rfl) h)
end Go.AM
set_option maxRecDepth 100000
namespace Go.AM
open Go.Proofs Ex
theorem adL {op:Int} {ks:List Ex} (hn:ks.length≤1000000) (hl:(bP op ks).length≤1000000):
  ∀(bp pre:List Ex),ks=pre++bp→
  Loop (AL CC op (ks.map enc) ((ks.map enc).length:Int)) (((pre.length:Nat):Int),(bP op pre).map enc)=some (((ks.map enc).length:Int),false,(bP op ks).map enc):=by
 intro bp
 induction bp with
 | nil=>
  intro pre e
  rw[eI] at e
  subst e
  refine bq ?_
  simp only[AL,AK,un,bM]
  rw[av,ai (by omega),c7 (by omega)]
 | cons k bp ih=>
  intro pre e
  have aR:pre.length<ks.length:=by rw[e];simp
  have hi:idx (ks.map enc) ((pre.length:Nat):Int)=some k.enc:=by rw[e];exact lC pre bp k
  have hf:bP op ks=bP op pre++((if k.op=op then k.kids else [k])++bP op bp):=by
   rw[e];unfold bP;rw[List.flatMap_append,o8]
  have GO:bP op (pre++[k])=bP op pre++(if k.op=op then k.kids else [k]):=by
   unfold bP;rw[List.flatMap_append,o8,List.flatMap_nil,eI]
  rw[hf,dM,dM] at hl
  have bL:AL CC op (ks.map enc) ((ks.map enc).length:Int) (((pre.length:Nat):Int),(bP op pre).map enc)=some (.inl (((pre.length+1:Nat):Int),(bP op (pre++[k])).map enc)):=by
   simp only[AL,AK,un,bM]
   rw[av,ag (by omega),hi,GO]
   simp only[Option.bind_some,bI,bJ,bK,dy,DE,bM,List.length_singleton]
   by_cases h:k.op=op
   ·rw[ag h] at hl⊢
    rw[ag h,ag (by rw[wh];omega),wrap64 (by omega) (by omega),o7]
    rfl
   ·rw[ai h] at hl⊢
    rw[List.length_singleton] at hl
    rw[ai h,ag (by rw[wh];omega),wrap64 (by omega) (by omega),o7,←j6]
    rfl
  rw[ct bL]
  have:=ih (pre++[k]) (by simp[e])
  simpa using this
theorem J7 {op:Int} {ks:List Ex} (hn:ks.length≤1000000) (hl:(bP op ks).length≤1000000):CC vX [.int .i64 op,.list aa (ks.map enc)]=some [.list aa ((bP op ks).map enc)]:=by
 refine adE ?_
 unfold RH
 refine (congrArg (fun o=>Option.bind o _) (adL hn hl ks [] rfl)).trans ?_
 rfl
def jA (e:Ex):List V:=[.int .i64 e.op,.int .i64 e.letter,.list aa (e.kids.map enc)]
def fJ (op:Int) (l:List Ex) (me:Ex):Ex:=
 match l with
 | []=>me
 | [k]=>k
 | l=> .node op 0 l
theorem oU {op:Int} {l:List Ex} {z:Ex}:CC ly (.int .i64 op:: .list aa (l.map enc)::jA z)=some (jA (fJ op l z)):=by
 refine adF ?_
 unfold RI
 simp only[dy,bM]
 match l with
 | []=>simp[fJ,jA]
 | [k]=>simp[fJ,jA,bI,bJ,bK]
 | k::k2::l=>
  rw[ai (by simp only[List.length_cons];omega),ai (by simp only[List.length_cons];omega)]
  rfl
end Go.AM
set_option maxRecDepth 100000
set_option maxHeartbeats 1000000
namespace Go.AM
open Go.Proofs Ex
def Ex.lx (a b:Ex):Prop:=cmp a b<0
noncomputable instance (a b:Ex):Decidable (a.lx b):=by unfold Ex.lx;infer_instance
theorem Ex.RK (a:Ex): ¬a.lx a:=by unfold Ex.lx;rw[AI];omega
theorem Ex.J8 {a b c:Ex} (h1:a.lx b) (U:b.lx c):a.lx c:=by
 unfold Ex.lx at*
 have h3:=J4 a b c (by omega) (by omega)
 refine Decidable.byContradiction fun h=> ?_
 have h0:cmp a c=0:=by omega
 have:=tY a c h0
 subst this
 have:=rI a b
 omega
theorem Ex.adM {a b:Ex}:a.lx b→¬b.lx a:=by
 unfold Ex.lx
 have:=rI a b
 omega
theorem Ex.RL {a b:Ex} (h1: ¬a.lx b) (U: ¬b.lx a):a=b:=by
 unfold Ex.lx at*
 have:=rI a b
 exact tY a b (by omega)
abbrev jB (E:List Ex):Prop:=E.Pairwise Ex.lx
theorem RM: ∀{A B:List Ex},jB A→jB B→(∀x,x∈A↔x∈B)→A=B
 | [],[],_,_,_=>rfl
 | [],b::B,_,_,h=>by have:=(h b).2 (by simp);cases this
 | a::A,[],_,_,h=>by have:=(h a).1 (by simp);cases this
 | a::A,b::B,hA,hB,h=>by
  have a1:=rZ.1 hA
  have b1:=rZ.1 hB
  have fl:a=b:=by
   have ha:=(h a).1 (by simp)
   have hb:=(h b).2 (by simp)
   rcases eH.1 ha with e|e
   ·exact e
   ·rcases eH.1 hb with e'|e'
    ·exact e'.symm
    ·exact absurd (a1.1 b e') (Ex.adM (b1.1 a e))
  subst fl
  rw[RM a1.2 b1.2 fun x=> ?_]
  constructor
  ·intro hx
   rcases eH.1 ((h x).1 (by simp[hx])) with e|e
   ·subst e;exact absurd (a1.1 x hx) (Ex.RK x)
   ·exact e
  ·intro hx
   rcases eH.1 ((h x).2 (by simp[hx])) with e|e
   ·subst e;exact absurd (b1.1 x hx) (Ex.RK x)
   ·exact e
open Classical in
noncomputable def wO (out:List Ex) (e:Ex):List Ex:=
 if gJ out e out.length=0∨¬out.getD (gJ out e out.length-1) bG=e then out.take (gJ out e out.length)++[e]++out.drop (gJ out e out.length) else out
theorem RN (out:List Ex) (e:Ex): ∀k i,gJ out e k≤i→i<k→e.lx (out.getD i bG)
 | 0,i,_,h=>by omega
 | k+1,i,h1,U=>by
  unfold gJ at h1
  split at h1
  ·rename_i h3
   by_cases hi:i=k
   ·subst hi;exact h3
   ·exact RN out e k i h1 (by omega)
  ·omega
theorem RO (out:List Ex) (e:Ex): ∀k,gJ out e k≠0→¬e.lx (out.getD (gJ out e k-1) bG)
 | 0,h=>by simp[gJ] at h
 | k+1,h=>by
  unfold gJ at h⊢
  split
  ·rename_i h3
   rw[ag h3] at h
   exact RO out e k h
  ·rename_i h3
   exact h3
theorem adN {out:List Ex} {e x:Ex} (hk:gJ out e out.length≤out.length):x∈wO out e↔x=e∨x∈out:=by
 unfold wO
 split
 ·rename_i h
  have:=List.take_append_drop (gJ out e out.length) out
  constructor
  ·intro hx
   simp only[da,eB,fM] at hx
   rcases hx with hx|hx|hx
   ·exact .inr (List.mem_of_mem_take hx)
   ·exact .inl hx
   ·exact .inr (List.mem_of_mem_drop hx)
  ·rintro (rfl|hx)
   ·simp
   ·rw[←this] at hx
    simp only[eB] at hx
    simp only[da,eB,fM]
    rcases hx with hx|hx
    ·exact .inl hx
    ·exact .inr (.inr hx)
 ·rename_i h
  simp only[not_or,Classical.not_not] at h
  constructor
  ·exact .inr
  ·rintro (rfl|hx)
   ·have h1:=h.2
    have U:gJ out x out.length-1<out.length:=by omega
    rw[←h1]
    simp[U]
   ·exact hx
theorem adO {out:List Ex} {e:Ex} (h:jB out):jB (wO out e):=by
 have hk:=J6 out e out.length
 have up:=RN out e out.length
 have dn:=RO out e out.length
 unfold wO
 generalize hq:gJ out e out.length=k at*
 split
 ·rename_i hc
  have g:=BE.1 h
  have gV: ∀x∈out.take k,x.lx e:=by
   intro x hx
   obtain ⟨i,hi,rfl⟩:=List.getElem_of_mem hx
   have dD:i<k:=by rw[fb] at hi;omega
   have pN:i<out.length:=by omega
   rw[List.getElem_take]
   have kJ:k≠0:=by omega
   have h1:=dn kJ
   have U: ¬out.getD (k-1) bG=e:=by
    rcases hc with hc|hc
    ·exact absurd hc kJ
    ·exact hc
   have ky:k-1<out.length:=by omega
   have e1:out.getD (k-1) bG=out[k-1]:=by simp[ky]
   rw[e1] at h1 U
   have h3:out[k-1].lx e:=by
    by_cases h4:out[k-1].lx e
    ·exact h4
    ·exact absurd (Ex.RL h4 h1) U
   by_cases hik:i=k-1
   ·subst hik;exact h3
   ·exact Ex.J8 (g i (k-1) pN ky (by omega)) h3
  have gh: ∀y∈out.drop k,e.lx y:=by
   intro y hy
   obtain ⟨i,hi,rfl⟩:=List.getElem_of_mem hy
   rw[rY] at hi
   rw[List.getElem_drop]
   have:=up (k+i) (by omega) (by omega)
   have e1:out.getD (k+i) bG=out[k+i]:=by simp[show k+i<out.length by omega]
   rwa [e1] at this
  rw[jB,da,List.pairwise_append]
  refine ⟨h.sublist (List.take_sublist _ _),?_,?_⟩
  ·rw[List.singleton_append,rZ]
   exact ⟨gh,h.sublist (List.drop_sublist _ _)⟩
  ·intro x hx y hy
   rw[List.singleton_append,eH] at hy
   rcases hy with rfl|hy
   ·exact gV x hx
   ·exact Ex.J8 (gV x hx) (gh y hy)
 ·exact h
theorem RP (out:List Ex) (e:Ex):fV out e=wO out e:=by
 unfold fV wO
 generalize gJ out e out.length=k
 by_cases h:k=0∨¬out.getD (k-1) bG=e
 ·rw[ag h,ai (fun U=>by
   rcases h with h|h
   ·omega
   ·exact h (tY _ _ U.2))]
  simp
 ·rw[ai h,ag]
  simp only[not_or,Classical.not_not] at h
  exact ⟨by omega,by rw[h.2];exact AI e⟩
end Go.AM
set_option maxRecDepth 100000
namespace Go.AM
open Go.Proofs Ex
def e7:Ex:= .node 1 0 []
def lG:Ex:= .node 2 0 []
def gm:Ex:= .node 8 0 [e7]
def fK (o l:Int) (ks:List Ex):Ex:=
 if o=8 then (let k:=ks.getD 0 bG;if k.op=8 then k.kids.getD 0 bG else .node o l ks)
 else if o=7 then (let k:=ks.getD 0 bG;if k.op=1∨k.op=2 then lG else if k.op=7∨univ k=true then k else .node o l ks)
 else if o=5 then (let f:=bP 5 ks;if f.any (fun k=>decide (k.op=1)) then e7 else fJ 5 (f.filter fun k=>decide (k.op≠2)) lG)
 else if o=4 then (let f:=bP 4 ks;if f.any univ then gm else fJ 4 ((f.filter fun k=>decide (k.op≠1)).foldl fV []) e7)
 else if o=6 then (let f:=bP 6 ks;if f.any (fun k=>decide (k.op=1)) then e7 else fJ 6 ((f.filter fun k=> !(univ k)).foldl fV []) gm)
 else .node o l ks
mutual
def ew:Ex→Ex
 | .node o l ks=>fK o l (AN ks)
def AN:List Ex→List Ex
 | []=>[]
 | k::ks=>ew k::AN ks
end
theorem RQ: ∀ks,AN ks=ks.map ew
 | []=>by simp only[AN,nJ]
 | k::ks=>by simp only[AN,dB,RQ ks]
theorem adP {out:List Ex} {e:Ex} (h:jB out):jB (fV out e):=by rw[RP];exact adO h
theorem adQ {out:List Ex} {e x:Ex}:x∈fV out e↔x=e∨x∈out:=by rw[RP];exact adN (J6 _ _ _)
theorem EU: ∀(l out:List Ex),jB out→jB (l.foldl fV out)∧∀x,x∈l.foldl fV out↔x∈l∨x∈out
 | [],out,h=>⟨h,by simp⟩
 | e::l,out,h=>by
  obtain ⟨h1,U⟩:=EU l (fV out e) (adP h)
  refine ⟨h1,fun x=> ?_⟩
  rw[List.foldl_cons,U,adQ]
  simp only[eH]
  constructor
  ·rintro (h|h|h)
   ·exact .inl (.inr h)
   ·exact .inl (.inl h)
   ·exact .inr h
  ·rintro ((h|h)|h)
   ·exact .inr (.inl h)
   ·exact .inl h
   ·exact .inr (.inr h)
def rL (o:Int) (ks:List Ex):Prop:=
 (o=8→∀k∈ks,k.op≠8)∧
 (o=7→∀k∈ks,k.op≠1∧k.op≠2∧k.op≠7∧univ k=false)∧
 (o=5→∀k∈ks,k.op≠5∧k.op≠1∧k.op≠2)∧
 (o=4→jB ks∧∀k∈ks,k.op≠4∧k.op≠1∧univ k=false)∧
 (o=6→jB ks∧∀k∈ks,k.op≠6∧k.op≠1∧univ k=false)
inductive Nm:Ex→Prop
 | node {o l:Int} {ks:List Ex}:(∀k∈ks,Nm k)→rL o ks→Nm (.node o l ks)
theorem Nm.oJ {o l:Int} {ks:List Ex} (h:Nm (.node o l ks)): ∀k∈ks,Nm k:=by cases h;assumption
theorem Nm.ok {o l:Int} {ks:List Ex} (h:Nm (.node o l ks)):rL o ks:=by cases h;assumption
def Gd (n:Int) (e:Ex):Prop:=Nm e∧e.wf n=true
theorem adR {n o l:Int} {ks:List Ex} (h:iy o l ks.length n=true) (hk: ∀k∈ks,k.wf n=true):(Ex.node o l ks).wf n=true:=by
 have: ∀ks:List Ex,(∀k∈ks,k.wf n=true)→gk n ks=true:=by
  intro ks
  induction ks with
  | nil=>intro _;simp only[gk]
  | cons k ks ih=>intro h;simp only[gk,h k (by simp),ih fun k hk=>h k (by simp[hk]),kb]
 simp only[Ex.wf,h,this ks hk,kb]
theorem mD {o l len n:Int} (h:iy o l len n=true):(o=3∧len=0∧0≤l∧l<n)∨(l=0∧((o=1∧len=0)∨(o=2∧len=0)∨(o=4∧2≤len)∨(o=5∧2≤len)∨(o=6∧2≤len)∨(o=7∧len=1)∨(o=8∧len=1))):=by
 unfold iy at h
 split at h
 ·rename_i h3
  have:=iB h
  omega
 ·rw[aM] at h
  have h1:=iB h.1
  have U:=h.2
  split at U
  ·have:=iB U;omega
  ·split at U
   ·have:=iB U;omega
   ·have:=iB U;omega
theorem Gd.kids {n:Int} {e:Ex} (h:Gd n e): ∀k∈e.kids,Gd n k:=by
 obtain ⟨o,l,ks⟩:=e
 exact fun k hk=>⟨h.1.oJ k hk,(qg h.2).2 k hk⟩
theorem Gd.ok {n:Int} {e:Ex} (h:Gd n e):rL e.op e.kids:=by
 obtain ⟨o,l,ks⟩:=e
 exact h.1.ok
theorem Gd.shape {n:Int} {e:Ex} (h:Gd n e):iy e.op e.letter e.kids.length n=true:=by
 obtain ⟨o,l,ks⟩:=e
 exact (qg h.2).1
theorem Gd.mk' {n o l:Int} {ks:List Ex} (h1: ∀k∈ks,Gd n k) (U:rL o ks) (h3:iy o l ks.length n=true):Gd n (.node o l ks):=
 ⟨.node (fun k hk=>(h1 k hk).1) U,adR h3 fun k hk=>(h1 k hk).2⟩
theorem EV {n:Int}:Gd n e7:= .mk' (by simp) ⟨by simp,by simp,by simp,by simp,by simp⟩ (by simp[iy])
theorem RR {n:Int}:Gd n lG:= .mk' (by simp) ⟨by simp,by simp,by simp,by simp,by simp⟩ (by simp[iy])
theorem RS {n:Int}:Gd n gm:= .mk' (by simp[EV]) ⟨by simp[e7,Ex.op],by simp,by simp,by simp,by simp⟩ (by simp[iy])
theorem J9 {n:Int} {e:Ex} (h:Gd n e) (hu:univ e=true):e=gm:=by
 obtain ⟨o,l,ks⟩:=e
 have hs:=mD h.shape
 have hu:=iB hu
 simp only[Ex.op,Ex.kids,Ex.letter] at*
 match ks,hu with
 | [k],hu=>
  obtain ⟨o2,l2,kN⟩:=k
  have mh:=mD (h.kids _ (fM.2 rfl)).shape
  simp only[Ex.op,Ex.kids,Ex.letter,BI] at*
  obtain rfl:kN=[]:=List.length_eq_zero_iff.1 (by omega)
  unfold gm e7
  rw[show o=8 by omega,show l=0 by omega,show o2=1 by omega,show l2=0 by omega]
theorem Ka (a b:List Ex):bt (a++b)=bt a+bt b:=by
 induction a with
 | nil=>simp[bt]
 | cons k a ih=>simp only[List.cons_append,bt,ih];omega
theorem Kb (p:Ex→Bool) (l:List Ex):bt (l.filter p)≤bt l:=by
 induction l with
 | nil=>simp[bt]
 | cons k l ih=>
  rw[nN]
  split
  ·simp only[bt];omega
  ·simp only[bt];omega
theorem qk (l:List Ex):l.length≤bt l:=by
 induction l with
 | nil=>simp[bt]
 | cons k l ih=>simp only[bt,List.length_cons];have:=k.size_pos;omega
theorem wP (o:Int) (l:List Ex):bt (bP o l)≤bt l:=by
 induction l with
 | nil=>simp[bt,bP]
 | cons k l ih=>
  have e:bP o (k::l)=(if k.op=o then k.kids else [k])++bP o l:=by simp[bP]
  rw[e,Ka]
  simp only[bt]
  split
  ·obtain ⟨o2,l2,ks⟩:=k
   simp only[Ex.kids,size] at*;omega
  ·simp only[bt];omega
theorem adS (l:List Ex) (x:Ex):bt (fV l x)≤bt l+x.size:=by
 unfold fV
 simp only
 split
 ·omega
 ·have:=congrArg bt (List.take_append_drop (gJ l x l.length) l)
  rw[Ka] at this
  rw[Ka]
  simp only[bt]
  omega
theorem Kc: ∀(l acc:List Ex),bt (l.foldl fV acc)≤bt acc+bt l
 | [],acc=>by simp[bt]
 | k::l,acc=>by
  rw[List.foldl_cons]
  have h1:=Kc l (fV acc k)
  have U:=adS acc k
  simp only[bt]
  omega
theorem ql {l:List Ex} {d:Nat}:cB l≤d↔∀k∈l,k.depth≤d:=by
 induction l with
 | nil=>simp[cB]
 | cons k l ih=>simp only[cB,Nat.max_le,ih,eH,forall_eq_or_imp]
theorem RT {ks:List Ex} {k:Ex} (h:k∈ks):k.depth≤cB ks:=ql.1 (bQ _) k h
theorem iz {o:Int} {l:List Ex} {x:Ex}:x∈bP o l↔∃k∈l,(k.op=o∧x∈k.kids)∨(k.op≠o∧x=k):=by
 unfold bP
 rw[List.mem_flatMap]
 constructor
 ·rintro ⟨k,hk,hx⟩
  refine ⟨k,hk,?_⟩
  by_cases h:k.op=o
  ·rw[ag h] at hx;exact .inl ⟨h,hx⟩
  ·rw[ai h] at hx;exact .inr ⟨h,by simpa using hx⟩
 ·rintro ⟨k,hk,h|h⟩
  ·exact ⟨k,hk,by rw[ag h.1];exact h.2⟩
  ·exact ⟨k,hk,by rw[ai h.1];simp[h.2]⟩
theorem Kd {o:Int} {l:List Ex} {d:Nat} (h:cB l≤d):cB (bP o l)≤d:=by
 rw[ql] at*
 intro x hx
 obtain ⟨k,hk,h1|h1⟩:=iz.1 hx
 ·have:=h k hk
  have U:=RT h1.2
  obtain ⟨o2,l2,ks⟩:=k
  simp only[Ex.kids,depth] at*
  omega
 ·rw[h1.2];exact h k hk
theorem Ke {o:Int} {l:List Ex} {z:Ex} {m:Nat} (h:1+bt l≤m) (hz:z.size≤m):(fJ o l z).size≤m:=by
 match l,h with
 | [],_=>exact hz
 | [k],h=>simp only[fJ,bt] at*;omega
 | k::k2::l,h=>simp only[fJ,size];omega
theorem Kf {o:Int} {l:List Ex} {z:Ex} {m:Nat} (h:1+cB l≤m) (hz:z.depth≤m):(fJ o l z).depth≤m:=by
 match l,h with
 | [],_=>exact hz
 | [k],h=>simp only[fJ,cB] at*;omega
 | k::k2::l,h=>simp only[fJ,depth];omega
theorem Kg {n o:Int} {l:List Ex} {z:Ex} (hz:Gd n z) (hl: ∀k∈l,Gd n k) (hn:rL o l) (ho:4≤o∧o≤6):Gd n (fJ o l z):=by
 match l,hl,hn with
 | [],_,_=>exact hz
 | [k],h,_=>exact h k (by simp)
 | k::k2::l,h,hn=>
  refine .mk' h hn ?_
  unfold iy
  rw[ai (by omega),ai (by omega),ai (by omega)]
  simp only[List.length_cons,nH,kb]
  exact nM (by omega)
section
variable {n:Int} {ks:List Ex} (hk: ∀k∈ks,Gd n k)
include hk
theorem AO (o:Int): ∀k∈bP o ks,Gd n k:=fun x hx=>by
 obtain ⟨k,h,h1|h1⟩:=iz.1 hx
 ·exact (hk k h).kids x h1.2
 ·rw[h1.2];exact hk k h
theorem adT: ∀k∈bP 5 ks,k.op≠5:=fun x hx=>by
 obtain ⟨k,h,h1|h1⟩:=iz.1 hx
 ·exact ((hk k h).ok.2.2.1 h1.1 x h1.2).1
 ·rw[h1.2];exact h1.1
theorem adU: ∀k∈bP 4 ks,k.op≠4:=fun x hx=>by
 obtain ⟨k,h,h1|h1⟩:=iz.1 hx
 ·exact (((hk k h).ok.2.2.2.1 h1.1).2 x h1.2).1
 ·rw[h1.2];exact h1.1
theorem adV: ∀k∈bP 6 ks,k.op≠6:=fun x hx=>by
 obtain ⟨k,h,h1|h1⟩:=iz.1 hx
 ·exact (((hk k h).ok.2.2.2.2 h1.1).2 x h1.2).1
 ·rw[h1.2];exact h1.1
theorem adW:(bP 5 ks).any (fun k=>decide (k.op=1))=ks.any fun k=>decide (k.op=1):=by
 rw[qC,ke,ke]
 simp only[dw]
 constructor
 ·rintro ⟨x,hx,h⟩
  obtain ⟨k,U,h1|h1⟩:=iz.1 hx
  ·exact absurd h ((hk k U).ok.2.2.1 h1.1 x h1.2).2.1
  ·exact ⟨k,U,h1.2▸h⟩
 ·rintro ⟨k,h1,h⟩
  exact ⟨k,iz.2 ⟨k,h1,.inr ⟨by omega,rfl⟩⟩,h⟩
theorem adX:(bP 6 ks).any (fun k=>decide (k.op=1))=ks.any fun k=>decide (k.op=1):=by
 rw[qC,ke,ke]
 simp only[dw]
 constructor
 ·rintro ⟨x,hx,h⟩
  obtain ⟨k,U,h1|h1⟩:=iz.1 hx
  ·exact absurd h (((hk k U).ok.2.2.2.2 h1.1).2 x h1.2).2.1
  ·exact ⟨k,U,h1.2▸h⟩
 ·rintro ⟨k,h1,h⟩
  exact ⟨k,iz.2 ⟨k,h1,.inr ⟨by omega,rfl⟩⟩,h⟩
theorem adY:(bP 4 ks).any univ=ks.any univ:=by
 rw[qC,ke,ke]
 constructor
 ·rintro ⟨x,hx,h⟩
  obtain ⟨k,U,h1|h1⟩:=iz.1 hx
  ·rw[(((hk k U).ok.2.2.2.1 h1.1).2 x h1.2).2.2] at h;cases h
  ·exact ⟨k,U,h1.2▸h⟩
 ·rintro ⟨k,h1,h⟩
  have:=iB h
  exact ⟨k,iz.2 ⟨k,h1,.inr ⟨by omega,rfl⟩⟩,h⟩
end
theorem AP {l:Int} {ks:List Ex}:fK 5 l ks=if (bP 5 ks).any (fun k=>decide (k.op=1)) then e7 else fJ 5 ((bP 5 ks).filter fun k=>decide (k.op≠2)) lG:=by
 unfold fK;rw[ai (by omega),ai (by omega),ag rfl]
theorem AQ {l:Int} {ks:List Ex}:fK 4 l ks=if (bP 4 ks).any univ then gm else fJ 4 (((bP 4 ks).filter fun k=>decide (k.op≠1)).foldl fV []) e7:=by
 unfold fK;rw[ai (by omega),ai (by omega),ai (by omega),ag rfl]
theorem AR {l:Int} {ks:List Ex}:fK 6 l ks=if (bP 6 ks).any (fun k=>decide (k.op=1)) then e7 else fJ 6 (((bP 6 ks).filter fun k=> !(univ k)).foldl fV []) gm:=by
 unfold fK;rw[ai (by omega),ai (by omega),ai (by omega),ai (by omega),ag rfl]
theorem AS {l:Int} {k:Ex}:fK 7 l [k]=if k.op=1∨k.op=2 then lG else if k.op=7∨univ k=true then k else .node 7 l [k]:=by
 unfold fK;rw[ai (by omega),ag rfl];rfl
theorem AT {l:Int} {k:Ex}:fK 8 l [k]=if k.op=8 then k.kids.getD 0 bG else .node 8 l [k]:=by
 unfold fK;rw[ag rfl];rfl
theorem lH {o l:Int} (h:o=1∨o=2∨o=3) {ks:List Ex}:fK o l ks= .node o l ks:=by
 unfold fK;rw[ai (by omega),ai (by omega),ai (by omega),ai (by omega),ai (by omega)]
theorem RU {n:Int} {l:List Ex} (h: ∀k∈l,Gd n k): ∀k∈l.foldl fV [],Gd n k:=fun k hk=>by
 rcases ((EU l [] .nil).2 k).1 hk with h1|h1
 ·exact h k h1
 ·cases h1
theorem qm {l:List Ex} {x:Ex}:x∈l.foldl fV []↔x∈l:=by
 rw[(EU l [] .nil).2 x];simp
theorem Kh {l:List Ex}:jB (l.foldl fV []):=(EU l [] .nil).1
theorem adZ {l:List Ex} (h: ∀k∈l,k.op≠5∧k.op≠1∧k.op≠2):rL 5 l:=⟨by simp,by simp,fun _=>h,by simp,by simp⟩
theorem ad0 {l:List Ex} (h:jB l∧∀k∈l,k.op≠4∧k.op≠1∧univ k=false):rL 4 l:=⟨by simp,by simp,by simp,fun _=>h,by simp⟩
theorem ad1 {l:List Ex} (h:jB l∧∀k∈l,k.op≠6∧k.op≠1∧univ k=false):rL 6 l:=⟨by simp,by simp,by simp,by simp,fun _=>h⟩
theorem any_false {α:Type} {p:α→Bool} {l:List α} (h: ¬l.any p=true): ∀x∈l,p x=false:=fun x hx=>by
 cases hp:p x with
 | false=>rfl
 | true=>exact absurd (ke.2 ⟨x,hx,hp⟩) h
theorem ad2 {n o l:Int} {ks:List Ex} (hk: ∀k∈ks,Gd n k) (hs:iy o l ks.length n=true):Gd n (fK o l ks):=by
 rcases mD hs with ⟨rfl,h1,_⟩|⟨rfl,⟨rfl,h1⟩|⟨rfl,h1⟩|⟨rfl,h1⟩|⟨rfl,h1⟩|⟨rfl,h1⟩|⟨rfl,h1⟩|⟨rfl,h1⟩⟩
 ·rw[lH (by omega)];exact .mk' hk ⟨by simp,by simp,by simp,by simp,by simp⟩ hs
 ·rw[lH (by omega)];exact .mk' hk ⟨by simp,by simp,by simp,by simp,by simp⟩ hs
 ·rw[lH (by omega)];exact .mk' hk ⟨by simp,by simp,by simp,by simp,by simp⟩ hs
 ·rw[AQ]
  split
  ·exact RS
  ·rename_i hu
   refine Kg EV (RU fun k h=>AO hk 4 k (jc.1 h).1) (ad0 ⟨Kh,fun k h=> ?_⟩) (by omega)
   have U:=jc.1 (qm.1 h)
   exact ⟨adU hk k U.1,iB U.2,any_false hu k U.1⟩
 ·rw[AP]
  split
  ·exact EV
  ·rename_i hu
   refine Kg RR (fun k h=>AO hk 5 k (jc.1 h).1) (adZ fun k h=> ?_) (by omega)
   have U:=jc.1 h
   exact ⟨adT hk k U.1,of_decide_eq_false (any_false hu k U.1),iB U.2⟩
 ·rw[AR]
  split
  ·exact EV
  ·rename_i hu
   refine Kg RS (RU fun k h=>AO hk 6 k (jc.1 h).1) (ad1 ⟨Kh,fun k h=> ?_⟩) (by omega)
   have U:=jc.1 (qm.1 h)
   exact ⟨adV hk k U.1,of_decide_eq_false (any_false hu k U.1),by simpa using U.2⟩
 ·match ks,h1 with
  | [k],_=>
   rw[AS]
   split
   ·exact RR
   ·split
    ·exact hk k (by simp)
    ·rename_i U h3
     refine .mk' hk ⟨by simp,fun _ x hx=> ?_,by simp,by simp,by simp⟩ hs
     rw[fM.1 hx]
     exact ⟨by omega,by omega,fun h=>h3 (.inl h),by simpa using fun h=>h3 (.inr h)⟩
 ·match ks,h1 with
  | [k],_=>
   rw[AT]
   split
   ·rename_i h8
    have hg:=hk k (by simp)
    have mh:=mD hg.shape
    obtain ⟨o2,l2,kN⟩:=k
    simp only[Ex.op,Ex.kids,Ex.letter] at*
    match kN,(show (kN.length:Int)=1 by omega) with
    | [x],_=>exact hg.kids x (by simp[Ex.kids])
   ·rename_i h8
    refine .mk' hk ⟨fun _ x hx=> ?_,by simp,by simp,by simp,by simp⟩ hs
    rw[fM.1 hx]
    exact h8
theorem ad3 {n o l:Int} {ks:List Ex} (hs:iy o l ks.length n=true):(fK o l ks).size≤1+bt ks:=by
 have hl:=qk ks
 have z1:e7.size=1:=by simp[e7,size,bt]
 have z2:lG.size=1:=by simp[lG,size,bt]
 have z3:gm.size=2:=by simp[gm,e7,size,bt]
 rcases mD hs with ⟨rfl,h1,_⟩|⟨rfl,⟨rfl,h1⟩|⟨rfl,h1⟩|⟨rfl,h1⟩|⟨rfl,h1⟩|⟨rfl,h1⟩|⟨rfl,h1⟩|⟨rfl,h1⟩⟩
 ·rw[lH (by omega)];simp only[size];omega
 ·rw[lH (by omega)];simp only[size];omega
 ·rw[lH (by omega)];simp only[size];omega
 ·rw[AQ]
  have a1:=wP 4 ks
  have a2:=Kb (fun k=>decide (k.op≠1)) (bP 4 ks)
  have a3:=Kc ((bP 4 ks).filter fun k=>decide (k.op≠1)) []
  simp only[bt] at a3
  split
  ·omega
  ·exact Ke (by omega) (by omega)
 ·rw[AP]
  have a1:=wP 5 ks
  have a2:=Kb (fun k=>decide (k.op≠2)) (bP 5 ks)
  split
  ·omega
  ·exact Ke (by omega) (by omega)
 ·rw[AR]
  have a1:=wP 6 ks
  have a2:=Kb (fun k=> !(univ k)) (bP 6 ks)
  have a3:=Kc ((bP 6 ks).filter fun k=> !(univ k)) []
  simp only[bt] at a3
  split
  ·omega
  ·exact Ke (by omega) (by omega)
 ·match ks,h1 with
  | [k],_=>
   rw[AS]
   simp only[bt] at*
   split
   ·omega
   ·split
    ·omega
    ·simp only[size,bt];omega
 ·match ks,h1 with
  | [k],_=>
   rw[AT]
   simp only[bt] at*
   split
   ·obtain ⟨o2,l2,kN⟩:=k
    match kN with
    | []=>simp[Ex.kids,bG,size,bt]
    | x::kN=>simp only[Ex.kids,BI,size,bt];omega
   ·simp only[size,bt];omega
theorem ad4 {n o l:Int} {ks:List Ex} (hs:iy o l ks.length n=true):(fK o l ks).depth≤1+cB ks:=by
 have z1:e7.depth=1:=by simp[e7,depth,cB]
 have z2:lG.depth=1:=by simp[lG,depth,cB]
 have z3:gm.depth=2:=by simp[gm,e7,depth,cB]
 have hl:2≤ks.length→1≤cB ks:=fun h=>by
  match ks,h with
  | k::ks,_=>have:=k.Y8;simp only[cB];omega
 rcases mD hs with ⟨rfl,h1,_⟩|⟨rfl,⟨rfl,h1⟩|⟨rfl,h1⟩|⟨rfl,h1⟩|⟨rfl,h1⟩|⟨rfl,h1⟩|⟨rfl,h1⟩|⟨rfl,h1⟩⟩
 ·rw[lH (by omega)];simp only[depth];omega
 ·rw[lH (by omega)];simp only[depth];omega
 ·rw[lH (by omega)];simp only[depth];omega
 ·rw[AQ]
  have a1:=ql.1 (Kd (o:=4) (bQ (cB ks)))
  have a3:cB (((bP 4 ks).filter fun k=>decide (k.op≠1)).foldl fV [])≤cB ks:=ql.2 fun k h=>a1 k (jc.1 (qm.1 h)).1
  split
  ·omega
  ·exact Kf (by omega) (by omega)
 ·rw[AP]
  have a1:=ql.1 (Kd (o:=5) (bQ (cB ks)))
  have a3:cB ((bP 5 ks).filter fun k=>decide (k.op≠2))≤cB ks:=ql.2 fun k h=>a1 k (jc.1 h).1
  split
  ·omega
  ·exact Kf (by omega) (by omega)
 ·rw[AR]
  have a1:=ql.1 (Kd (o:=6) (bQ (cB ks)))
  have a3:cB (((bP 6 ks).filter fun k=> !(univ k)).foldl fV [])≤cB ks:=ql.2 fun k h=>a1 k (jc.1 (qm.1 h)).1
  split
  ·omega
  ·exact Kf (by omega) (by omega)
 ·match ks,h1 with
  | [k],_=>
   rw[AS]
   simp only[cB] at*
   split
   ·omega
   ·split
    ·omega
    ·simp only[depth,cB];omega
 ·match ks,h1 with
  | [k],_=>
   rw[AT]
   simp only[cB] at*
   split
   ·obtain ⟨o2,l2,kN⟩:=k
    match kN with
    | []=>simp[Ex.kids,bG,depth,cB]
    | x::kN=>simp only[Ex.kids,BI,depth,cB];omega
   ·simp only[depth,cB];omega
theorem AU {o l:Int} {ks:List Ex}:ew (.node o l ks)=fK o l (ks.map ew):=by rw[ew,RQ]
theorem EW {n:Int}: ∀e:Ex,e.wf n=true→Gd n (ew e):=ind fun o l ks ih hw=>by
 obtain ⟨h1,U⟩:=qg hw
 rw[AU]
 refine ad2 (fun k hk=> ?_) (by simpa using h1)
 obtain ⟨x,hx,rfl⟩:=ib.1 hk
 exact ih x hx (U x hx)
theorem Ki {n:Int}: ∀e:Ex,e.wf n=true→(ew e).size≤e.size:=ind fun o l ks ih hw=>by
 obtain ⟨h1,U⟩:=qg hw
 have: ∀ks:List Ex,(∀k∈ks,(ew k).size≤k.size)→bt (ks.map ew)≤bt ks:=by
  intro ks
  induction ks with
  | nil=>intro _;simp[bt]
  | cons k ks ih=>intro h;have a:=h k (by simp);have b:=ih fun k hk=>h k (by simp[hk]);simp only[dB,bt];omega
 have h3:=this ks fun k hk=>ih k hk (U k hk)
 rw[AU]
 have:=ad3 (n:=n) (o:=o) (l:=l) (ks:=ks.map ew) (by simpa using h1)
 simp only[size]
 omega
theorem ad5 {n:Int}: ∀e:Ex,e.wf n=true→(ew e).depth≤e.depth:=ind fun o l ks ih hw=>by
 obtain ⟨h1,U⟩:=qg hw
 have h3:cB (ks.map ew)≤cB ks:=ql.2 fun x hx=>by
  obtain ⟨k,hk,rfl⟩:=ib.1 hx
  exact kR (ih k hk (U k hk)) (RT hk)
 rw[AU]
 have:=ad4 (n:=n) (o:=o) (l:=l) (ks:=ks.map ew) (by simpa using h1)
 simp only[depth]
 omega
theorem RV {n:Int} (hn:n≤6): ∀e:Ex,e.wf n=true→e.size≤1000000→e.Ok:=ind fun o l ks ih hw hs=>by
 obtain ⟨h1,U⟩:=qg hw
 have hl:=qk ks
 simp only[size] at hs
 have h3:=mD h1
 have hm:ks.length≤maxLen:=by unfold maxLen;omega
 exact .node (by omega) (by omega) hm fun k hk=>ih k hk (U k hk) (by have:=JZ hk;omega)
theorem Kj {α:Type} {p:α→Bool} {l:List α} (h: ∀x∈l,p x=false):l.any p=false:=by
 cases e:l.any p with
 | false=>rfl
 | true=>obtain ⟨x,h1,U⟩:=ke.1 e;rw[h x h1] at U;cases U
section
variable {n:Int} {ks:List Ex} (hk: ∀k∈ks,Gd n k)
include hk
end
end Go.AM
set_option maxRecDepth 100000
namespace Go.AM
open Go.Proofs
noncomputable def RW (C:af) (an aw:Int) (ah:List V):Option (List V):=
 some [.bool ((an:Int)==2)]
theorem ad6 {an aw:Int} {ah:List V} {r:Option (List V)} (h:RW CC an aw ah=r):CC nt [.int .i64 an,.int .i64 aw,.list aa ah]=r:=
 bd (key:=151) (L:=cr) (bs:=[]) (by kernel_rfl) az (ba (by kernel_rfl) h)
noncomputable abbrev RX:Code:=bZ Tryz.prog (ay.aX 188)
noncomputable def wQ (C:af) (s:List V) (t7 t8:Int) {β:Type} (kn:Int→Option β) (kr:((Int) ⊕ (Int × Bool))→Option β):Option β:=
 bif decide ((t8:Int)<t7) then
  (idx s t8).bind fun x1=>
  (C kG [.int .i64 ((x1.cell 0).toInt),.int .i64 ((x1.cell 1).toInt),.list aa ((x1.cell 2).toList)]).bind fun r2=>
  bif (V.nth r2 0).toBool then
  kr (.inl t8)
  else
  kn (IntKind.wrap .i64 (t8+1))
 else
  kr (.inr (t8,decide ((t8:Int)<t7)))
noncomputable def ua (C:af) (s:List V) (t7:Int):(Int)→Option ((Int) ⊕ ((Int) ⊕ (Int × Bool))):=fun t8=>wQ C s t7 t8 (fun y=>some (.inl y)) (fun r=>some (.inr r))
noncomputable def RY (C:af):cw:=fun β n ds k=>
 bif Nat.beq n 33 then bS I9 [false,false,true] [[0],[1,2,0,0]] (@wQ C) ds k else
 none
abbrev ad7 (C:af) (b:cp):Prop:=cq Tryz.prog ay C (RY C) 188 (cH Tryz.prog (ay.aX 188)) (ay.sin 188).aY.length b
theorem ad8 (C:af):ad7 C (.loop (ax [1,0,1,0,0] RX)):=
 bX I9 [false,false,true] [[0],[1,2,0,0]] (@wQ C) (by kernel_rfl) (bn (bs:=[]) (by kernel_rfl) az) (fun ds=>by kernel_rfl) (fun i x=>by kernel_rfl) (fun i x β k=>by kernel_rfl) (fun β ds k=>by kernel_rfl)
noncomputable def Kk (C:af) (s:List V):Option (List V):=
 (Loop (ua C s (s.length:Int)) 0).bind (cY (fun (lB:Int)=>
  some [.int .i64 lB]) (un fun (tA:Int) (iw:Bool)=>
  some [.int .i64 (-1)]))
theorem RZ {s:List V} {r:Option (List V)} (h:Kk CC s=r):CC zz [.list aa s]=r:=
 bd (key:=188) (L:=RY CC) (bs:=[.loop (ax [1,0,1,0,0] RX)]) (by kernel_rfl) (bD (ad8 CC) az) (ba (by kernel_rfl) h)
noncomputable def R3 (C:af) (s:List V):Option (List V):=
 (C zz [.list aa s]).bind fun r1=>
 some [.bool (decide ((((V.nth r1 0).toInt):Int)≥0))]
theorem ad9 {s:List V} {r:Option (List V)} (h:R3 CC s=r):CC zy [.list aa s]=r:=
 bd (key:=187) (L:=cr) (bs:=[]) (by kernel_rfl) az (ba (by kernel_rfl) h)
noncomputable abbrev R4:Code:=bZ Tryz.prog (ay.aX 196)
noncomputable def wR (C:af) (i j:Int) (ss:List V) {β:Type} (kn:(Int × Int × (List V))→Option β) (kr:(Int × Int × Bool × (List V))→Option β):Option β:=
 bif decide ((j:Int)<(ss.length:Int)) then
  bif (decide (0≤j))&&(decide (j<(ss.length:Int))) then
  (ss[(j:Int).toNat]?).bind fun x2=>
  (C kG [.int .i64 ((x2.cell 0).toInt),.int .i64 ((x2.cell 1).toInt),.list aa ((x2.cell 2).toList)]).bind fun r3=>
  bif !((V.nth r3 0).toBool) then
   bif (decide (0≤i))&&(decide (i<(ss.length:Int))) then
   (ss[(i:Int).toNat]?).bind fun x4=>
   kn (IntKind.wrap .i64 (i+1),IntKind.wrap .i64 (j+1),ss.set ((i:Int).toNat) (.agg [.int .i64 ((x2.cell 0).toInt),.int .i64 ((x2.cell 1).toInt),.list aa ((x2.cell 2).toList)]))
   else none
  else
   kn (i,IntKind.wrap .i64 (j+1),ss)
  else none
 else
  kr (i,j,decide ((j:Int)<(ss.length:Int)),ss)
noncomputable def ub (C:af):(Int × Int × (List V))→Option ((Int × Int × (List V)) ⊕ (Int × Int × Bool × (List V))):=un fun i=>un fun j ss=>wR C i j ss (fun y=>some (.inl y)) (fun r=>some (.inr r))
noncomputable def R5 (C:af):cw:=fun β n ds k=>
 bif Nat.beq n 81 then bS Jd [true,true,true] [[0,0,0,0]] (@wR C) ds k else
 none
abbrev aea (C:af) (b:cp):Prop:=cq Tryz.prog ay C (R5 C) 196 (cH Tryz.prog (ay.aX 196)) (ay.sin 196).aY.length b
theorem aeb (C:af):aea C (.loop (ax [1,1,1,0,1,0,0] R4)):=
 bX Jd [true,true,true] [[0,0,0,0]] (@wR C) (by kernel_rfl) (bn (bs:=[]) (by kernel_rfl) az) (fun ds=>by kernel_rfl) (fun i x=>by kernel_rfl) (fun i x β k=>by kernel_rfl) (fun β ds k=>by kernel_rfl)
noncomputable def Kl (C:af) (ss:List V):Option (List V):=
 (C zz [.list aa ss]).bind fun r1=>
 bif (((V.nth r1 0).toInt):Int)==(-1) then
  some [V.bool true,.list aa ss]
 else
  (Loop (ub C) ((V.nth r1 0).toInt,IntKind.wrap .i64 (((V.nth r1 0).toInt)+1),ss)).bind (un fun (cL:Int)=>un fun (Km:Int)=>un fun (wm:Bool) (ei:List V)=>
   bif (decide (0≤cL))&&(decide (cL≤(ei.length:Int))) then
   bif (decide (0≤cL))&&(decide (cL≤((ei.take ((cL:Int).toNat)++(List.replicate (ei.length-((cL:Int).toNat)) (V.agg [.int .i64 0,.int .i64 0,.list aa ([]:List V)])++ei.drop (((cL:Int).toNat)+(ei.length-((cL:Int).toNat))))).length:Int))) then
    some [V.bool false,.list aa ((ei.take ((cL:Int).toNat)++(List.replicate (ei.length-((cL:Int).toNat)) (V.agg [.int .i64 0,.int .i64 0,.list aa ([]:List V)])++ei.drop (((cL:Int).toNat)+(ei.length-((cL:Int).toNat))))).take ((cL:Int).toNat))]
   else none
   else none)
theorem R6 {ss:List V} {r:Option (List V)} (h:Kl CC ss=r):CC Ed [.list aa ss]=r:=
 bd (key:=196) (L:=R5 CC) (bs:=[.loop (ax [1,1,1,0,1,0,0] R4)]) (by kernel_rfl) (bD (aeb CC) az) (ba (by kernel_rfl) h)
noncomputable abbrev R7:Code:=bZ Tryz.prog (ay.aX 195)
noncomputable def wS (C:af) (s:List V) (t7 t8:Int) {β:Type} (kn:Int→Option β) (kr:((Int) ⊕ (Int × Bool))→Option β):Option β:=
 bif decide ((t8:Int)<t7) then
  (idx s t8).bind fun x1=>
  (C nt [.int .i64 ((x1.cell 0).toInt),.int .i64 ((x1.cell 1).toInt),.list aa ((x1.cell 2).toList)]).bind fun r2=>
  bif (V.nth r2 0).toBool then
  kr (.inl t8)
  else
  kn (IntKind.wrap .i64 (t8+1))
 else
  kr (.inr (t8,decide ((t8:Int)<t7)))
noncomputable def uc (C:af) (s:List V) (t7:Int):(Int)→Option ((Int) ⊕ ((Int) ⊕ (Int × Bool))):=fun t8=>wS C s t7 t8 (fun y=>some (.inl y)) (fun r=>some (.inr r))
noncomputable def R8 (C:af):cw:=fun β n ds k=>
 bif Nat.beq n 33 then bS Jc [false,false,true] [[0],[1,2,0,0]] (@wS C) ds k else
 none
abbrev aec (C:af) (b:cp):Prop:=cq Tryz.prog ay C (R8 C) 195 (cH Tryz.prog (ay.aX 195)) (ay.sin 195).aY.length b
theorem aed (C:af):aec C (.loop (ax [1,0,1,0,0] R7)):=
 bX Jc [false,false,true] [[0],[1,2,0,0]] (@wS C) (by kernel_rfl) (bn (bs:=[]) (by kernel_rfl) az) (fun ds=>by kernel_rfl) (fun i x=>by kernel_rfl) (fun i x β k=>by kernel_rfl) (fun β ds k=>by kernel_rfl)
noncomputable def Kn (C:af) (s:List V):Option (List V):=
 (Loop (uc C s (s.length:Int)) 0).bind (cY (fun (lB:Int)=>
  some [.int .i64 lB]) (un fun (tA:Int) (iw:Bool)=>
  some [.int .i64 (-1)]))
theorem R9 {s:List V} {r:Option (List V)} (h:Kn CC s=r):CC Ec [.list aa s]=r:=
 bd (key:=195) (L:=R8 CC) (bs:=[.loop (ax [1,0,1,0,0] R7)]) (by kernel_rfl) (bD (aed CC) az) (ba (by kernel_rfl) h)
noncomputable abbrev Sa:Code:=bZ Tryz.prog (ay.aX 194)
noncomputable def wU (C:af) (i j:Int) (ss:List V) {β:Type} (kn:(Int × Int × (List V))→Option β) (kr:(Int × Int × Bool × (List V))→Option β):Option β:=
 bif decide ((j:Int)<(ss.length:Int)) then
  bif (decide (0≤j))&&(decide (j<(ss.length:Int))) then
  (ss[(j:Int).toNat]?).bind fun x2=>
  (C nt [.int .i64 ((x2.cell 0).toInt),.int .i64 ((x2.cell 1).toInt),.list aa ((x2.cell 2).toList)]).bind fun r3=>
  bif !((V.nth r3 0).toBool) then
   bif (decide (0≤i))&&(decide (i<(ss.length:Int))) then
   (ss[(i:Int).toNat]?).bind fun x4=>
   kn (IntKind.wrap .i64 (i+1),IntKind.wrap .i64 (j+1),ss.set ((i:Int).toNat) (.agg [.int .i64 ((x2.cell 0).toInt),.int .i64 ((x2.cell 1).toInt),.list aa ((x2.cell 2).toList)]))
   else none
  else
   kn (i,IntKind.wrap .i64 (j+1),ss)
  else none
 else
  kr (i,j,decide ((j:Int)<(ss.length:Int)),ss)
noncomputable def ud (C:af):(Int × Int × (List V))→Option ((Int × Int × (List V)) ⊕ (Int × Int × Bool × (List V))):=un fun i=>un fun j ss=>wU C i j ss (fun y=>some (.inl y)) (fun r=>some (.inr r))
noncomputable def Sb (C:af):cw:=fun β n ds k=>
 bif Nat.beq n 81 then bS Jb [true,true,true] [[0,0,0,0]] (@wU C) ds k else
 none
abbrev aee (C:af) (b:cp):Prop:=cq Tryz.prog ay C (Sb C) 194 (cH Tryz.prog (ay.aX 194)) (ay.sin 194).aY.length b
theorem aef (C:af):aee C (.loop (ax [1,1,1,0,1,0,0] Sa)):=
 bX Jb [true,true,true] [[0,0,0,0]] (@wU C) (by kernel_rfl) (bn (bs:=[]) (by kernel_rfl) az) (fun ds=>by kernel_rfl) (fun i x=>by kernel_rfl) (fun i x β k=>by kernel_rfl) (fun β ds k=>by kernel_rfl)
noncomputable def Ko (C:af) (ss:List V):Option (List V):=
 (C Ec [.list aa ss]).bind fun r1=>
 bif (((V.nth r1 0).toInt):Int)==(-1) then
  some [V.bool true,.list aa ss]
 else
  (Loop (ud C) ((V.nth r1 0).toInt,IntKind.wrap .i64 (((V.nth r1 0).toInt)+1),ss)).bind (un fun (cL:Int)=>un fun (Km:Int)=>un fun (wm:Bool) (ei:List V)=>
   bif (decide (0≤cL))&&(decide (cL≤(ei.length:Int))) then
   bif (decide (0≤cL))&&(decide (cL≤((ei.take ((cL:Int).toNat)++(List.replicate (ei.length-((cL:Int).toNat)) (V.agg [.int .i64 0,.int .i64 0,.list aa ([]:List V)])++ei.drop (((cL:Int).toNat)+(ei.length-((cL:Int).toNat))))).length:Int))) then
    some [V.bool false,.list aa ((ei.take ((cL:Int).toNat)++(List.replicate (ei.length-((cL:Int).toNat)) (V.agg [.int .i64 0,.int .i64 0,.list aa ([]:List V)])++ei.drop (((cL:Int).toNat)+(ei.length-((cL:Int).toNat))))).take ((cL:Int).toNat))]
   else none
   else none)
theorem Sd {ss:List V} {r:Option (List V)} (h:Ko CC ss=r):CC Eb [.list aa ss]=r:=
 bd (key:=194) (L:=Sb CC) (bs:=[.loop (ax [1,1,1,0,1,0,0] Sa)]) (by kernel_rfl) (bD (aef CC) az) (ba (by kernel_rfl) h)
noncomputable abbrev Se:Code:=bZ Tryz.prog (ay.aX 190)
noncomputable def wW (C:af) (s:List V) (t7 t8:Int) {β:Type} (kn:Int→Option β) (kr:((Int) ⊕ (Int × Bool))→Option β):Option β:=
 bif decide ((t8:Int)<t7) then
  (idx s t8).bind fun x1=>
  (C jZ [.int .i64 ((x1.cell 0).toInt),.int .i64 ((x1.cell 1).toInt),.list aa ((x1.cell 2).toList)]).bind fun r2=>
  bif (V.nth r2 0).toBool then
  kr (.inl t8)
  else
  kn (IntKind.wrap .i64 (t8+1))
 else
  kr (.inr (t8,decide ((t8:Int)<t7)))
noncomputable def ue (C:af) (s:List V) (t7:Int):(Int)→Option ((Int) ⊕ ((Int) ⊕ (Int × Bool))):=fun t8=>wW C s t7 t8 (fun y=>some (.inl y)) (fun r=>some (.inr r))
noncomputable def Sf (C:af):cw:=fun β n ds k=>
 bif Nat.beq n 33 then bS Ja [false,false,true] [[0],[1,2,0,0]] (@wW C) ds k else
 none
abbrev aeg (C:af) (b:cp):Prop:=cq Tryz.prog ay C (Sf C) 190 (cH Tryz.prog (ay.aX 190)) (ay.sin 190).aY.length b
theorem aeh (C:af):aeg C (.loop (ax [1,0,1,0,0] Se)):=
 bX Ja [false,false,true] [[0],[1,2,0,0]] (@wW C) (by kernel_rfl) (bn (bs:=[]) (by kernel_rfl) az) (fun ds=>by kernel_rfl) (fun i x=>by kernel_rfl) (fun i x β k=>by kernel_rfl) (fun β ds k=>by kernel_rfl)
noncomputable def Kp (C:af) (s:List V):Option (List V):=
 (Loop (ue C s (s.length:Int)) 0).bind (cY (fun (lB:Int)=>
  some [.int .i64 lB]) (un fun (tA:Int) (iw:Bool)=>
  some [.int .i64 (-1)]))
theorem Sg {s:List V} {r:Option (List V)} (h:Kp CC s=r):CC zA [.list aa s]=r:=
 bd (key:=190) (L:=Sf CC) (bs:=[.loop (ax [1,0,1,0,0] Se)]) (by kernel_rfl) (bD (aeh CC) az) (ba (by kernel_rfl) h)
noncomputable def Sh (C:af) (s:List V):Option (List V):=
 (C zA [.list aa s]).bind fun r1=>
 some [.bool (decide ((((V.nth r1 0).toInt):Int)≥0))]
theorem aei {s:List V} {r:Option (List V)} (h:Sh CC s=r):CC HV [.list aa s]=r:=
 bd (key:=189) (L:=cr) (bs:=[]) (by kernel_rfl) az (ba (by kernel_rfl) h)
noncomputable abbrev Si:Code:=bZ Tryz.prog (ay.aX 62)
noncomputable def wX (C:af) (i j:Int) (ss:List V) {β:Type} (kn:(Int × Int × (List V))→Option β) (kr:(Int × Int × Bool × (List V))→Option β):Option β:=
 bif decide ((j:Int)<(ss.length:Int)) then
  bif (decide (0≤j))&&(decide (j<(ss.length:Int))) then
  (ss[(j:Int).toNat]?).bind fun x2=>
  (C jZ [.int .i64 ((x2.cell 0).toInt),.int .i64 ((x2.cell 1).toInt),.list aa ((x2.cell 2).toList)]).bind fun r3=>
  bif !((V.nth r3 0).toBool) then
   bif (decide (0≤i))&&(decide (i<(ss.length:Int))) then
   (ss[(i:Int).toNat]?).bind fun x4=>
   kn (IntKind.wrap .i64 (i+1),IntKind.wrap .i64 (j+1),ss.set ((i:Int).toNat) (.agg [.int .i64 ((x2.cell 0).toInt),.int .i64 ((x2.cell 1).toInt),.list aa ((x2.cell 2).toList)]))
   else none
  else
   kn (i,IntKind.wrap .i64 (j+1),ss)
  else none
 else
  kr (i,j,decide ((j:Int)<(ss.length:Int)),ss)
noncomputable def uf (C:af):(Int × Int × (List V))→Option ((Int × Int × (List V)) ⊕ (Int × Int × Bool × (List V))):=un fun i=>un fun j ss=>wX C i j ss (fun y=>some (.inl y)) (fun r=>some (.inr r))
noncomputable def Sj (C:af):cw:=fun β n ds k=>
 bif Nat.beq n 81 then bS Il [true,true,true] [[0,0,0,0]] (@wX C) ds k else
 none
abbrev aej (C:af) (b:cp):Prop:=cq Tryz.prog ay C (Sj C) 62 (cH Tryz.prog (ay.aX 62)) (ay.sin 62).aY.length b
theorem aek (C:af):aej C (.loop (ax [1,1,1,0,1,0,0] Si)):=
 bX Il [true,true,true] [[0,0,0,0]] (@wX C) (by kernel_rfl) (bn (bs:=[]) (by kernel_rfl) az) (fun ds=>by kernel_rfl) (fun i x=>by kernel_rfl) (fun i x β k=>by kernel_rfl) (fun β ds k=>by kernel_rfl)
noncomputable def Kq (C:af) (ss:List V):Option (List V):=
 (C zA [.list aa ss]).bind fun r1=>
 bif (((V.nth r1 0).toInt):Int)==(-1) then
  some [V.bool true,.list aa ss]
 else
  (Loop (uf C) ((V.nth r1 0).toInt,IntKind.wrap .i64 (((V.nth r1 0).toInt)+1),ss)).bind (un fun (cL:Int)=>un fun (Km:Int)=>un fun (wm:Bool) (ei:List V)=>
   bif (decide (0≤cL))&&(decide (cL≤(ei.length:Int))) then
   bif (decide (0≤cL))&&(decide (cL≤((ei.take ((cL:Int).toNat)++(List.replicate (ei.length-((cL:Int).toNat)) (V.agg [.int .i64 0,.int .i64 0,.list aa ([]:List V)])++ei.drop (((cL:Int).toNat)+(ei.length-((cL:Int).toNat))))).length:Int))) then
    some [V.bool false,.list aa ((ei.take ((cL:Int).toNat)++(List.replicate (ei.length-((cL:Int).toNat)) (V.agg [.int .i64 0,.int .i64 0,.list aa ([]:List V)])++ei.drop (((cL:Int).toNat)+(ei.length-((cL:Int).toNat))))).take ((cL:Int).toNat))]
   else none
   else none)
theorem Sk {ss:List V} {r:Option (List V)} (h:Kq CC ss=r):CC vT [.list aa ss]=r:=
 bd (key:=62) (L:=Sj CC) (bs:=[.loop (ax [1,1,1,0,1,0,0] Si)]) (by kernel_rfl) (bD (aek CC) az) (ba (by kernel_rfl) h)
end Go.AM
set_option maxRecDepth 100000
namespace Go.AM
open Go.Proofs Ex
def e8 (k:Ex):Bool:=decide (k.op=1)
def fL (k:Ex):Bool:=decide (k.op=2)
theorem AV (k:Ex):CC kG (c6 k [])=some [.bool (e8 k)]:=by
 refine QZ ?_
 unfold JW e8
 rw[AF]
theorem EX (k:Ex):CC nt (c6 k [])=some [.bool (fL k)]:=by
 refine ad6 ?_
 unfold RW fL
 rw[AF]
theorem AW (k:Ex):CC jZ (c6 k [])=some [.bool (univ k)]:=by
 obtain ⟨o,l,ks⟩:=k
 refine Q0 ?_
 unfold JX univ
 simp only[Ex.op,Ex.kids,dy,bM]
 by_cases h1:o=8
 ·rw[ag h1]
  match ks with
  | []=>simp
  | [k]=>
   rw[ag (by simp)]
   simp only[dB,nJ,List.getElem?_cons_zero,Option.bind_some,bI,bJ,bK]
   refine (congrArg (fun o=>Option.bind o _) (AV k)).trans ?_
   simp only[h1,e8]
   simp
   rfl
  | k::k2::ks=>
   rw[ai (by simp<;>omega)]
   simp
 ·rw[ai h1];simp[h1]
theorem j5 {l:List Ex} {j:Nat} (h:j<l.length):l.take (j+1)=l.take j++[l.getD j bG]:=by
 rw[List.take_succ_eq_append_getElem h];simp[h]
theorem AX {l ss:List Ex} {j:Nat} (hl:ss.length=l.length) (h:ss.drop j=l.drop j) (hj:j<l.length):ss.getD j bG=l.getD j bG:=by
 have h1:=congrArg (fun x:List Ex=>x.getD 0 bG) h
 simpa[hj,hl] using h1
theorem nC {l:List Ex} {i:Nat} (h:i<l.length):(l.map enc)[i]? =some (l.getD i bG).enc:=by simp[h]
theorem EY (ss:List Ex) (m:Nat) (z:V) (hm:m≤ss.length):((((ss.map enc).take m++(List.replicate ((ss.map enc).length-m) z++(ss.map enc).drop (m+((ss.map enc).length-m)))).take m)=(ss.take m).map enc):=by
 rw[List.take_append_of_le_length (by simp;omega),List.take_of_length_le (by simp;omega),List.map_take]
theorem ael {ks:List Ex} (hlen:ks.length≤1000000): ∀(bp pre:List Ex),ks=pre++bp→(∀k∈pre,e8 k=false)→
  (ks.any e8=false∧∃t,Loop (ua CC (ks.map enc) ((ks.map enc).length:Int)) ((pre.length:Nat):Int)=some (.inr t))∨
  (∃i:Nat,i<ks.length∧e8 (ks.getD i bG)=true∧(∀k∈ks.take i,e8 k=false)∧Loop (ua CC (ks.map enc) ((ks.map enc).length:Int)) ((pre.length:Nat):Int)=some (.inl (i:Int))):=by
 intro bp
 induction bp with
 | nil=>
  intro pre bN hp
  rw[eI] at bN
  subst bN
  refine .inl ⟨Kj hp,⟨(((ks.length:Nat):Int),false),bq ?_⟩⟩
  ·simp only[ua,wQ,bM,av]
   rw[ai (by omega),c7 (by omega)]
 | cons k bp ih=>
  intro pre bN hp
  have cU:pre.length<ks.length:=by rw[bN];simp
  have dg:idx (ks.map enc) (pre.length:Int)=some k.enc:=by rw[bN];exact lC _ _ _
  cases hk:e8 k with
  | true=>
   refine .inr ⟨pre.length,cU,by rw[bN];simpa using hk,by rw[bN];simpa using hp,bq ?_⟩
   simp only[ua,wQ,bM,av]
   rw[ag (by omega),dg]
   simp only[Option.bind_some,bI,bJ,bK]
   refine (congrArg (fun o=>Option.bind o _) (AV k)).trans ?_
   simp only[Option.bind_some,V.aI,V.cK]
   rw[hk,cond_true]
  | false=>
   have bL:ua CC (ks.map enc) ((ks.map enc).length:Int) ((pre.length:Nat):Int)=some (.inl (((pre++[k]).length:Nat):Int)):=by
    simp only[ua,wQ,bM,av]
    rw[ag (by omega),dg]
    simp only[Option.bind_some,bI,bJ,bK]
    refine (congrArg (fun o=>Option.bind o _) (AV k)).trans ?_
    simp only[Option.bind_some,V.aI,V.cK]
    rw[hk,cond_false,wrap64 (by omega) (by omega)]
    simp
   rw[ct bL]
   refine ih (pre++[k]) (by rw[bN];simp) fun x hx=> ?_
   rcases eB.1 hx with hx|hx
   ·exact hp x hx
   ·rw[fM.1 hx];exact hk
theorem Sl {ks:List Ex} (hlen:ks.length≤1000000):
  (ks.any e8=false∧CC zz [.list aa (ks.map enc)]=some [.int .i64 (-1)])∨
  (∃i:Nat,i<ks.length∧e8 (ks.getD i bG)=true∧(∀k∈ks.take i,e8 k=false)∧CC zz [.list aa (ks.map enc)]=some [.int .i64 (i:Int)]):=by
 rcases ael hlen ks [] rfl (by simp) with ⟨h1,t,U⟩|⟨i,h1,U,h3,h4⟩
 ·refine .inl ⟨h1,RZ ?_⟩
  unfold Kk
  refine (congrArg (fun o=>Option.bind o _) U).trans ?_
  rfl
 ·refine .inr ⟨i,h1,U,h3,RZ ?_⟩
  unfold Kk
  refine (congrArg (fun o=>Option.bind o _) h4).trans ?_
  rfl
theorem aem {ks:List Ex} (hlen:ks.length≤1000000):CC zy [.list aa (ks.map enc)]=some [.bool (ks.any e8)]:=by
 refine ad9 ?_
 unfold R3
 rcases Sl hlen with ⟨h1,U⟩|⟨i,h1,U,h3,h4⟩
 ·refine (congrArg (fun o=>Option.bind o _) U).trans ?_
  rw[h1];rfl
 ·refine (congrArg (fun o=>Option.bind o _) h4).trans ?_
  rw[ke.2 ⟨_,by rw[show ks.getD i bG=ks[i] by simp[h1]];exact List.getElem_mem h1,U⟩]
  simp
theorem aen {ks:List Ex} (hn:ks.length≤1000000): ∀(d j i:Nat) (ss:List Ex),j+d=ks.length→i≤j→ss.length=ks.length→ss.take i=(ks.take j).filter (fun k=> !(e8 k))→ss.drop j=ks.drop j→
  ∃t eD,Loop (ub CC) ((i:Int),(j:Int),ss.map enc)=some (((ks.filter (fun k=> !(e8 k))).length:Int),(ks.length:Int),t,List.map enc eD)∧eD.take (ks.filter (fun k=> !(e8 k))).length=ks.filter (fun k=> !(e8 k))∧eD.length=ks.length:=by
 intro d
 induction d with
 | zero=>
  intro j i ss hj hi hl ht hd
  obtain rfl:j=ks.length:=by omega
  rw[qv] at ht
  have gg:i=(ks.filter (fun k=> !(e8 k))).length:=by rw[←ht,fb];omega
  refine ⟨false,ss,bq ?_,by rw[←gg];exact ht,hl⟩
  simp only[ub,wR,un,bM,av]
  rw[ai (by omega),c7 (by omega),gg]
 | succ d ih=>
  intro j i ss hj hi hl ht hd
  have b8:j<ks.length:=by omega
  have hg:=AX hl hd b8
  have gR:ss.drop (j+1)=ks.drop (j+1):=by rw[←nL,←nL,hd]
  have hx:(ss.map enc)[j]? =some (ks.getD j bG).enc:=by rw[nC (by omega),hg]
  have t1:((j:Nat):Int)<(ss.length:Int):=by omega
  have t2:(0:Int)≤((j:Nat):Int):=by omega
  have t3:((i:Nat):Int)<(ss.length:Int):=by omega
  have t4:(0:Int)≤((i:Nat):Int):=by omega
  have dg: ∃y,(ss.map enc)[i]? =some y:=⟨_,nC (by omega)⟩
  obtain ⟨y,hy⟩:=dg
  cases hk:e8 (ks.getD j bG) with
  | true=>
   have bL:ub CC ((i:Int),(j:Int),ss.map enc)=some (.inl ((i:Int),((j+1:Nat):Int),ss.map enc)):=by
    simp only[ub,wR,un,bM,av,ca,t1,t2,cP,Int.toNat_natCast,hx,Option.bind_some,bI,bJ,bK]
    refine (congrArg (fun o=>Option.bind o _) (AV (ks.getD j bG))).trans ?_
    simp only[Option.bind_some,V.aI,V.cK]
    rw[hk,qy,cond_false,wrap64 (by omega) (by omega)]
    rfl
   rw[ct bL]
   refine ih (j+1) i ss (by omega) (by omega) hl ?_ gR
   rw[j5 b8,o9,ht,nN,hk]
   simp
  | false=>
   have bL:ub CC ((i:Int),(j:Int),ss.map enc)=some (.inl (((i+1:Nat):Int),((j+1:Nat):Int),(ss.set i (ks.getD j bG)).map enc)):=by
    simp only[ub,wR,un,bM,av,ca,t1,t2,t3,t4,cP,Int.toNat_natCast,hx,hy,Option.bind_some,bI,bJ,bK]
    refine (congrArg (fun o=>Option.bind o _) (AV (ks.getD j bG))).trans ?_
    simp only[Option.bind_some,V.aI,V.cK]
    rw[hk,r0,cond_true,wrap64 (by omega) (by omega),wrap64 (by omega) (by omega),←j6,xG]
    rfl
   rw[ct bL]
   refine ih (j+1) (i+1) (ss.set i (ks.getD j bG)) (by omega) (by omega) (by simpa using hl) ?_ ?_
   ·rw[j5 (by rw[lP];omega),BJ (bQ i),ht,j5 b8,o9,nN,hk]
    simp[show i<ss.length by omega]
   ·rw[BK (by omega),gR]
theorem aeo {ks:List Ex} (hn:ks.length≤1000000): ∃b,CC Ed [.list aa (ks.map enc)]=some [.bool b,.list aa ((ks.filter (fun k=> !(e8 k))).map enc)]:=by
 rcases Sl hn with ⟨h1,U⟩|⟨i,h1,U,h3,h4⟩
 ·refine ⟨true,R6 ?_⟩
  unfold Kl
  refine (congrArg (fun o=>Option.bind o _) U).trans ?_
  rw[uJ.2 fun k hk=>show (!(e8 k))=true by rw[any_false (p:=e8) (by rw[h1];simp) k hk];rfl]
  rfl
 ·have hf:(ks.take (i+1)).filter (fun k=> !(e8 k))=ks.take i:=by
   rw[j5 h1,o9,nN,U,uJ.2 fun k hk=>show (!(e8 k))=true by rw[h3 k hk];rfl]
   simp
  obtain ⟨t,eD,e1,e2,e3⟩:=aen hn (ks.length-(i+1)) (i+1) i ks (by omega) (by omega) rfl hf.symm rfl
  refine ⟨false,R6 ?_⟩
  unfold Kl
  refine (congrArg (fun o=>Option.bind o _) h4).trans ?_
  simp only[Option.bind_some,V.aI,V.toInt_int,dy]
  rw[ai (by omega),wrap64 (by omega) (by omega)]
  refine (congrArg (fun o=>Option.bind o _) e1).trans ?_
  have hm:(ks.filter (fun k=> !(e8 k))).length≤eD.length:=by rw[e3];exact xH _ _
  have t1:((((ks.filter (fun k=> !(e8 k))).length:Nat):Int)≤((eD.map enc).length:Int)):=by rw[bM];omega
  simp only[Option.bind_some,un,ca,av,Int.toNat_natCast]
  rw[ag (by omega),ag t1,ag (by omega),ag (by simp only[dM,fb,uH,rY];omega),EY _ _ _ hm,e2]
theorem aep {ks:List Ex} (hlen:ks.length≤1000000): ∀(bp pre:List Ex),ks=pre++bp→(∀k∈pre,fL k=false)→
  (ks.any fL=false∧∃t,Loop (uc CC (ks.map enc) ((ks.map enc).length:Int)) ((pre.length:Nat):Int)=some (.inr t))∨
  (∃i:Nat,i<ks.length∧fL (ks.getD i bG)=true∧(∀k∈ks.take i,fL k=false)∧Loop (uc CC (ks.map enc) ((ks.map enc).length:Int)) ((pre.length:Nat):Int)=some (.inl (i:Int))):=by
 intro bp
 induction bp with
 | nil=>
  intro pre bN hp
  rw[eI] at bN
  subst bN
  refine .inl ⟨Kj hp,⟨(((ks.length:Nat):Int),false),bq ?_⟩⟩
  ·simp only[uc,wS,bM,av]
   rw[ai (by omega),c7 (by omega)]
 | cons k bp ih=>
  intro pre bN hp
  have cU:pre.length<ks.length:=by rw[bN];simp
  have dg:idx (ks.map enc) (pre.length:Int)=some k.enc:=by rw[bN];exact lC _ _ _
  cases hk:fL k with
  | true=>
   refine .inr ⟨pre.length,cU,by rw[bN];simpa using hk,by rw[bN];simpa using hp,bq ?_⟩
   simp only[uc,wS,bM,av]
   rw[ag (by omega),dg]
   simp only[Option.bind_some,bI,bJ,bK]
   refine (congrArg (fun o=>Option.bind o _) (EX k)).trans ?_
   simp only[Option.bind_some,V.aI,V.cK]
   rw[hk,cond_true]
  | false=>
   have bL:uc CC (ks.map enc) ((ks.map enc).length:Int) ((pre.length:Nat):Int)=some (.inl (((pre++[k]).length:Nat):Int)):=by
    simp only[uc,wS,bM,av]
    rw[ag (by omega),dg]
    simp only[Option.bind_some,bI,bJ,bK]
    refine (congrArg (fun o=>Option.bind o _) (EX k)).trans ?_
    simp only[Option.bind_some,V.aI,V.cK]
    rw[hk,cond_false,wrap64 (by omega) (by omega)]
    simp
   rw[ct bL]
   refine ih (pre++[k]) (by rw[bN];simp) fun x hx=> ?_
   rcases eB.1 hx with hx|hx
   ·exact hp x hx
   ·rw[fM.1 hx];exact hk
theorem aeq {ks:List Ex} (hlen:ks.length≤1000000):
  (ks.any fL=false∧CC Ec [.list aa (ks.map enc)]=some [.int .i64 (-1)])∨
  (∃i:Nat,i<ks.length∧fL (ks.getD i bG)=true∧(∀k∈ks.take i,fL k=false)∧CC Ec [.list aa (ks.map enc)]=some [.int .i64 (i:Int)]):=by
 rcases aep hlen ks [] rfl (by simp) with ⟨h1,t,U⟩|⟨i,h1,U,h3,h4⟩
 ·refine .inl ⟨h1,R9 ?_⟩
  unfold Kn
  refine (congrArg (fun o=>Option.bind o _) U).trans ?_
  rfl
 ·refine .inr ⟨i,h1,U,h3,R9 ?_⟩
  unfold Kn
  refine (congrArg (fun o=>Option.bind o _) h4).trans ?_
  rfl
theorem aer {ks:List Ex} (hn:ks.length≤1000000): ∀(d j i:Nat) (ss:List Ex),j+d=ks.length→i≤j→ss.length=ks.length→ss.take i=(ks.take j).filter (fun k=> !(fL k))→ss.drop j=ks.drop j→
  ∃t eD,Loop (ud CC) ((i:Int),(j:Int),ss.map enc)=some (((ks.filter (fun k=> !(fL k))).length:Int),(ks.length:Int),t,List.map enc eD)∧eD.take (ks.filter (fun k=> !(fL k))).length=ks.filter (fun k=> !(fL k))∧eD.length=ks.length:=by
 intro d
 induction d with
 | zero=>
  intro j i ss hj hi hl ht hd
  obtain rfl:j=ks.length:=by omega
  rw[qv] at ht
  have gg:i=(ks.filter (fun k=> !(fL k))).length:=by rw[←ht,fb];omega
  refine ⟨false,ss,bq ?_,by rw[←gg];exact ht,hl⟩
  simp only[ud,wU,un,bM,av]
  rw[ai (by omega),c7 (by omega),gg]
 | succ d ih=>
  intro j i ss hj hi hl ht hd
  have b8:j<ks.length:=by omega
  have hg:=AX hl hd b8
  have gR:ss.drop (j+1)=ks.drop (j+1):=by rw[←nL,←nL,hd]
  have hx:(ss.map enc)[j]? =some (ks.getD j bG).enc:=by rw[nC (by omega),hg]
  have t1:((j:Nat):Int)<(ss.length:Int):=by omega
  have t2:(0:Int)≤((j:Nat):Int):=by omega
  have t3:((i:Nat):Int)<(ss.length:Int):=by omega
  have t4:(0:Int)≤((i:Nat):Int):=by omega
  have dg: ∃y,(ss.map enc)[i]? =some y:=⟨_,nC (by omega)⟩
  obtain ⟨y,hy⟩:=dg
  cases hk:fL (ks.getD j bG) with
  | true=>
   have bL:ud CC ((i:Int),(j:Int),ss.map enc)=some (.inl ((i:Int),((j+1:Nat):Int),ss.map enc)):=by
    simp only[ud,wU,un,bM,av,ca,t1,t2,cP,Int.toNat_natCast,hx,Option.bind_some,bI,bJ,bK]
    refine (congrArg (fun o=>Option.bind o _) (EX (ks.getD j bG))).trans ?_
    simp only[Option.bind_some,V.aI,V.cK]
    rw[hk,qy,cond_false,wrap64 (by omega) (by omega)]
    rfl
   rw[ct bL]
   refine ih (j+1) i ss (by omega) (by omega) hl ?_ gR
   rw[j5 b8,o9,ht,nN,hk]
   simp
  | false=>
   have bL:ud CC ((i:Int),(j:Int),ss.map enc)=some (.inl (((i+1:Nat):Int),((j+1:Nat):Int),(ss.set i (ks.getD j bG)).map enc)):=by
    simp only[ud,wU,un,bM,av,ca,t1,t2,t3,t4,cP,Int.toNat_natCast,hx,hy,Option.bind_some,bI,bJ,bK]
    refine (congrArg (fun o=>Option.bind o _) (EX (ks.getD j bG))).trans ?_
    simp only[Option.bind_some,V.aI,V.cK]
    rw[hk,r0,cond_true,wrap64 (by omega) (by omega),wrap64 (by omega) (by omega),←j6,xG]
    rfl
   rw[ct bL]
   refine ih (j+1) (i+1) (ss.set i (ks.getD j bG)) (by omega) (by omega) (by simpa using hl) ?_ ?_
   ·rw[j5 (by rw[lP];omega),BJ (bQ i),ht,j5 b8,o9,nN,hk]
    simp[show i<ss.length by omega]
   ·rw[BK (by omega),gR]
theorem aes {ks:List Ex} (hn:ks.length≤1000000): ∃b,CC Eb [.list aa (ks.map enc)]=some [.bool b,.list aa ((ks.filter (fun k=> !(fL k))).map enc)]:=by
 rcases aeq hn with ⟨h1,U⟩|⟨i,h1,U,h3,h4⟩
 ·refine ⟨true,Sd ?_⟩
  unfold Ko
  refine (congrArg (fun o=>Option.bind o _) U).trans ?_
  rw[uJ.2 fun k hk=>show (!(fL k))=true by rw[any_false (p:=fL) (by rw[h1];simp) k hk];rfl]
  rfl
 ·have hf:(ks.take (i+1)).filter (fun k=> !(fL k))=ks.take i:=by
   rw[j5 h1,o9,nN,U,uJ.2 fun k hk=>show (!(fL k))=true by rw[h3 k hk];rfl]
   simp
  obtain ⟨t,eD,e1,e2,e3⟩:=aer hn (ks.length-(i+1)) (i+1) i ks (by omega) (by omega) rfl hf.symm rfl
  refine ⟨false,Sd ?_⟩
  unfold Ko
  refine (congrArg (fun o=>Option.bind o _) h4).trans ?_
  simp only[Option.bind_some,V.aI,V.toInt_int,dy]
  rw[ai (by omega),wrap64 (by omega) (by omega)]
  refine (congrArg (fun o=>Option.bind o _) e1).trans ?_
  have hm:(ks.filter (fun k=> !(fL k))).length≤eD.length:=by rw[e3];exact xH _ _
  have t1:((((ks.filter (fun k=> !(fL k))).length:Nat):Int)≤((eD.map enc).length:Int)):=by rw[bM];omega
  simp only[Option.bind_some,un,ca,av,Int.toNat_natCast]
  rw[ag (by omega),ag t1,ag (by omega),ag (by simp only[dM,fb,uH,rY];omega),EY _ _ _ hm,e2]
theorem aet {ks:List Ex} (hlen:ks.length≤1000000): ∀(bp pre:List Ex),ks=pre++bp→(∀k∈pre,univ k=false)→
  (ks.any univ=false∧∃t,Loop (ue CC (ks.map enc) ((ks.map enc).length:Int)) ((pre.length:Nat):Int)=some (.inr t))∨
  (∃i:Nat,i<ks.length∧univ (ks.getD i bG)=true∧(∀k∈ks.take i,univ k=false)∧Loop (ue CC (ks.map enc) ((ks.map enc).length:Int)) ((pre.length:Nat):Int)=some (.inl (i:Int))):=by
 intro bp
 induction bp with
 | nil=>
  intro pre bN hp
  rw[eI] at bN
  subst bN
  refine .inl ⟨Kj hp,⟨(((ks.length:Nat):Int),false),bq ?_⟩⟩
  ·simp only[ue,wW,bM,av]
   rw[ai (by omega),c7 (by omega)]
 | cons k bp ih=>
  intro pre bN hp
  have cU:pre.length<ks.length:=by rw[bN];simp
  have dg:idx (ks.map enc) (pre.length:Int)=some k.enc:=by rw[bN];exact lC _ _ _
  cases hk:univ k with
  | true=>
   refine .inr ⟨pre.length,cU,by rw[bN];simpa using hk,by rw[bN];simpa using hp,bq ?_⟩
   simp only[ue,wW,bM,av]
   rw[ag (by omega),dg]
   simp only[Option.bind_some,bI,bJ,bK]
   refine (congrArg (fun o=>Option.bind o _) (AW k)).trans ?_
   simp only[Option.bind_some,V.aI,V.cK]
   rw[hk,cond_true]
  | false=>
   have bL:ue CC (ks.map enc) ((ks.map enc).length:Int) ((pre.length:Nat):Int)=some (.inl (((pre++[k]).length:Nat):Int)):=by
    simp only[ue,wW,bM,av]
    rw[ag (by omega),dg]
    simp only[Option.bind_some,bI,bJ,bK]
    refine (congrArg (fun o=>Option.bind o _) (AW k)).trans ?_
    simp only[Option.bind_some,V.aI,V.cK]
    rw[hk,cond_false,wrap64 (by omega) (by omega)]
    simp
   rw[ct bL]
   refine ih (pre++[k]) (by rw[bN];simp) fun x hx=> ?_
   rcases eB.1 hx with hx|hx
   ·exact hp x hx
   ·rw[fM.1 hx];exact hk
theorem Sm {ks:List Ex} (hlen:ks.length≤1000000):
  (ks.any univ=false∧CC zA [.list aa (ks.map enc)]=some [.int .i64 (-1)])∨
  (∃i:Nat,i<ks.length∧univ (ks.getD i bG)=true∧(∀k∈ks.take i,univ k=false)∧CC zA [.list aa (ks.map enc)]=some [.int .i64 (i:Int)]):=by
 rcases aet hlen ks [] rfl (by simp) with ⟨h1,t,U⟩|⟨i,h1,U,h3,h4⟩
 ·refine .inl ⟨h1,Sg ?_⟩
  unfold Kp
  refine (congrArg (fun o=>Option.bind o _) U).trans ?_
  rfl
 ·refine .inr ⟨i,h1,U,h3,Sg ?_⟩
  unfold Kp
  refine (congrArg (fun o=>Option.bind o _) h4).trans ?_
  rfl
theorem aeu {ks:List Ex} (hlen:ks.length≤1000000):CC HV [.list aa (ks.map enc)]=some [.bool (ks.any univ)]:=by
 refine aei ?_
 unfold Sh
 rcases Sm hlen with ⟨h1,U⟩|⟨i,h1,U,h3,h4⟩
 ·refine (congrArg (fun o=>Option.bind o _) U).trans ?_
  rw[h1];rfl
 ·refine (congrArg (fun o=>Option.bind o _) h4).trans ?_
  rw[ke.2 ⟨_,by rw[show ks.getD i bG=ks[i] by simp[h1]];exact List.getElem_mem h1,U⟩]
  simp
theorem aev {ks:List Ex} (hn:ks.length≤1000000): ∀(d j i:Nat) (ss:List Ex),j+d=ks.length→i≤j→ss.length=ks.length→ss.take i=(ks.take j).filter (fun k=> !(univ k))→ss.drop j=ks.drop j→
  ∃t eD,Loop (uf CC) ((i:Int),(j:Int),ss.map enc)=some (((ks.filter (fun k=> !(univ k))).length:Int),(ks.length:Int),t,List.map enc eD)∧eD.take (ks.filter (fun k=> !(univ k))).length=ks.filter (fun k=> !(univ k))∧eD.length=ks.length:=by
 intro d
 induction d with
 | zero=>
  intro j i ss hj hi hl ht hd
  obtain rfl:j=ks.length:=by omega
  rw[qv] at ht
  have gg:i=(ks.filter (fun k=> !(univ k))).length:=by rw[←ht,fb];omega
  refine ⟨false,ss,bq ?_,by rw[←gg];exact ht,hl⟩
  simp only[uf,wX,un,bM,av]
  rw[ai (by omega),c7 (by omega),gg]
 | succ d ih=>
  intro j i ss hj hi hl ht hd
  have b8:j<ks.length:=by omega
  have hg:=AX hl hd b8
  have gR:ss.drop (j+1)=ks.drop (j+1):=by rw[←nL,←nL,hd]
  have hx:(ss.map enc)[j]? =some (ks.getD j bG).enc:=by rw[nC (by omega),hg]
  have t1:((j:Nat):Int)<(ss.length:Int):=by omega
  have t2:(0:Int)≤((j:Nat):Int):=by omega
  have t3:((i:Nat):Int)<(ss.length:Int):=by omega
  have t4:(0:Int)≤((i:Nat):Int):=by omega
  have dg: ∃y,(ss.map enc)[i]? =some y:=⟨_,nC (by omega)⟩
  obtain ⟨y,hy⟩:=dg
  cases hk:univ (ks.getD j bG) with
  | true=>
   have bL:uf CC ((i:Int),(j:Int),ss.map enc)=some (.inl ((i:Int),((j+1:Nat):Int),ss.map enc)):=by
    simp only[uf,wX,un,bM,av,ca,t1,t2,cP,Int.toNat_natCast,hx,Option.bind_some,bI,bJ,bK]
    refine (congrArg (fun o=>Option.bind o _) (AW (ks.getD j bG))).trans ?_
    simp only[Option.bind_some,V.aI,V.cK]
    rw[hk,qy,cond_false,wrap64 (by omega) (by omega)]
    rfl
   rw[ct bL]
   refine ih (j+1) i ss (by omega) (by omega) hl ?_ gR
   rw[j5 b8,o9,ht,nN,hk]
   simp
  | false=>
   have bL:uf CC ((i:Int),(j:Int),ss.map enc)=some (.inl (((i+1:Nat):Int),((j+1:Nat):Int),(ss.set i (ks.getD j bG)).map enc)):=by
    simp only[uf,wX,un,bM,av,ca,t1,t2,t3,t4,cP,Int.toNat_natCast,hx,hy,Option.bind_some,bI,bJ,bK]
    refine (congrArg (fun o=>Option.bind o _) (AW (ks.getD j bG))).trans ?_
    simp only[Option.bind_some,V.aI,V.cK]
    rw[hk,r0,cond_true,wrap64 (by omega) (by omega),wrap64 (by omega) (by omega),←j6,xG]
    rfl
   rw[ct bL]
   refine ih (j+1) (i+1) (ss.set i (ks.getD j bG)) (by omega) (by omega) (by simpa using hl) ?_ ?_
   ·rw[j5 (by rw[lP];omega),BJ (bQ i),ht,j5 b8,o9,nN,hk]
    simp[show i<ss.length by omega]
   ·rw[BK (by omega),gR]
theorem aew {ks:List Ex} (hn:ks.length≤1000000): ∃b,CC vT [.list aa (ks.map enc)]=some [.bool b,.list aa ((ks.filter (fun k=> !(univ k))).map enc)]:=by
 rcases Sm hn with ⟨h1,U⟩|⟨i,h1,U,h3,h4⟩
 ·refine ⟨true,Sk ?_⟩
  unfold Kq
  refine (congrArg (fun o=>Option.bind o _) U).trans ?_
  rw[uJ.2 fun k hk=>show (!(univ k))=true by rw[any_false (p:=univ) (by rw[h1];simp) k hk];rfl]
  rfl
 ·have hf:(ks.take (i+1)).filter (fun k=> !(univ k))=ks.take i:=by
   rw[j5 h1,o9,nN,U,uJ.2 fun k hk=>show (!(univ k))=true by rw[h3 k hk];rfl]
   simp
  obtain ⟨t,eD,e1,e2,e3⟩:=aev hn (ks.length-(i+1)) (i+1) i ks (by omega) (by omega) rfl hf.symm rfl
  refine ⟨false,Sk ?_⟩
  unfold Kq
  refine (congrArg (fun o=>Option.bind o _) h4).trans ?_
  simp only[Option.bind_some,V.aI,V.toInt_int,dy]
  rw[ai (by omega),wrap64 (by omega) (by omega)]
  refine (congrArg (fun o=>Option.bind o _) e1).trans ?_
  have hm:(ks.filter (fun k=> !(univ k))).length≤eD.length:=by rw[e3];exact xH _ _
  have t1:((((ks.filter (fun k=> !(univ k))).length:Nat):Int)≤((eD.map enc).length:Int)):=by rw[bM];omega
  simp only[Option.bind_some,un,ca,av,Int.toNat_natCast]
  rw[ag (by omega),ag t1,ag (by omega),ag (by simp only[dM,fb,uH,rY];omega),EY _ _ _ hm,e2]
end Go.AM
set_option maxRecDepth 100000
namespace Go.AM
open Go.Proofs Go.Sort
section
variable {α:Type} {enc:α→V}
def oW (enc:α→V) (d:Array α):List V:=d.toList.map enc
theorem fv (d:Array α):(oW enc d).length=d.size:=by simp[oW]
theorem fw (d:Array α) (i:Nat) (x:α):(oW enc d).set i (enc x)=oW enc (d.setIfInBounds i x):=by
 unfold oW;rw[Array.toList_setIfInBounds,xG]
variable [Inhabited α]
theorem fx {d:Array α} {i:Nat} (h:i<d.size):(oW enc d)[i]? =some (enc d[i]!):=by
 unfold oW;rw[fX,qz,jJ h,getElem!_pos d i h];rfl
theorem gK {d:Array α} {i j:Nat} {x:α} (h:i<d.size):(oW enc (d.setIfInBounds j x))[i]? =some (enc (d.setIfInBounds j x)[i]!):=fx (by rw[fY];exact h)
theorem fy (a b:Nat):(a:Int)+(b:Int)=((a+b:Nat):Int):=(Int.natCast_add a b).symm
theorem dt (a:Nat):(a:Int)+1=((a+1:Nat):Int):=rfl
theorem ug (a:Nat):((a+1:Nat):Int)-1=(a:Int):=by omega
theorem AY (a:Nat):(a:Int)*2=((a*2:Nat):Int):=by omega
theorem lI {a b:Nat} (h:b≤a):(a:Int)-(b:Int)=((a-b:Nat):Int):=by omega
theorem jC {a:Nat} (h:1≤a):(a:Int)-1=((a-1:Nat):Int):=by omega
theorem divC (a b:Nat):Int.tdiv (a:Int) (b:Int)=((a/b:Nat):Int):=by rw[Int.tdiv_eq_ediv_of_nonneg (by omega)];rfl
theorem mE {p:Prop} [Decidable p] (h:p):decide p=true:=nM h
theorem rM {p:Prop} [Decidable p] (h: ¬p):decide p=false:=c7 h
variable {lt:α→α→Bool}
theorem Sn (a j:Nat) (d:Array α):insInner lt a (j+1) d=if j+1>a&&lt d[j+1]! d[j]! then insInner lt a j (swp d (j+1) j) else d:=rfl
theorem Kr {a:Nat}: ∀(j:Nat) (d:Array α),(insInner lt a j d).size=d.size
 | 0,d=>rfl
 | j+1,d=>by
  rw[Sn]
  split
  ·rw[Kr j,size_swp]
  ·rfl
theorem AZ (hi first:Nat): ∀(n root:Nat) (d:Array α),hi-root≤n→(siftDown lt hi first root d).size=d.size:=by
 intro n
 induction n with
 | zero=>intro root d h;rw[siftDown,qt (by omega)]
 | succ n ih=>
  intro root d h
  rw[siftDown]
  split
  ·rfl
  ·split
   ·split
    ·rfl
    ·split
     ·rw[ih _ _ (by omega),size_swp]
     ·rfl
   ·split
    ·rfl
    ·rw[ih _ _ (by omega),size_swp]
theorem Ks (hi first:Nat): ∀(k:Nat) (d:Array α),(heapBuild lt hi first k d).size=d.size
 | 0,d=>rfl
 | k+1,d=>by rw[heapBuild,Ks,AZ _ _ _ _ _ (bQ _)]
end
end Go.AM
set_option maxRecDepth 100000
namespace Go.AM.SX
open Go.Proofs Ex
structure XE where
 e:Ex
 ok:e.Ok
instance:Inhabited XE:=⟨⟨.node 0 0 [],.node (by omega) (by omega) (by simp) (by simp)⟩⟩
namespace XE
def enc (x:XE):V:=x.e.enc
theorem bI (x:XE):(x.enc.cell 0).toInt=x.e.op:=Go.AM.bI x.e
theorem bJ (x:XE):(x.enc.cell 1).toInt=x.e.letter:=Go.AM.bJ x.e
theorem bK (x:XE):(x.enc.cell 2).toList=x.e.kids.map Ex.enc:=Go.AM.bK x.e
theorem re (x:XE):V.agg [.int .i64 x.e.op,.int .i64 x.e.letter,.list aa (x.e.kids.map Ex.enc)]=x.enc:=(Ex.j6 x.e).symm
end XE
def bU (a b:XE):Int:=cmp a.e b.e
theorem fW (a b:XE):CC bc [.int .i64 a.e.op,.int .i64 a.e.letter,.list aa (a.e.kids.map Ex.enc),.int .i64 b.e.op,.int .i64 b.e.letter,.list aa (b.e.kids.map Ex.enc)]=some [.int .i64 (bU a b)]:=
 RE a.e a.ok b.e b.ok
def XE.lt (a b:XE):Prop:=bU a b<0
theorem XE.lt_irrefl (a:XE): ¬a.lt a:=by unfold XE.lt bU;rw[AI];omega
theorem aex {a b c:Ex} (h1:cmp a b<0) (U:cmp b c<0):cmp a c<0:=by
 have h3:=J4 a b c (by omega) (by omega)
 refine Decidable.byContradiction fun h=> ?_
 have h0:cmp a c=0:=by omega
 have:=tY a c h0
 subst this
 have:=rI a b
 omega
theorem XE.lt_trans {a b c:XE} (h1:a.lt b) (U:b.lt c):a.lt c:=aex h1 U
theorem XE.aey {a b c:XE} (h1: ¬a.lt b) (U: ¬b.lt c): ¬a.lt c:=by
 unfold XE.lt bU at*
 have a1:=rI a.e b.e
 have a2:=rI b.e c.e
 have a3:=rI a.e c.e
 have:=J4 c.e b.e a.e (by omega) (by omega)
 omega
end Go.AM.SX
set_option maxRecDepth 100000
namespace Go.AM
open Go.Proofs
noncomputable abbrev EZ:Code:=bZ Tryz.prog (ay.aX 127)
noncomputable def wY (C:af) (a b' i j:Int) (aj:List V) {β:Type} (kn:(Int × (List V))→Option β) (kr:(Int × Bool × (List V))→Option β):Option β:=
 bif decide ((j:Int)>a) then
  bif (decide (0≤j))&&(decide (j<(aj.length:Int))) then
  (aj[(j:Int).toNat]?).bind fun x1=>
  bif (decide (0≤(IntKind.wrap .i64 (j-1))))&&(decide ((IntKind.wrap .i64 (j-1))<(aj.length:Int))) then
   (aj[(IntKind.wrap .i64 (j-1):Int).toNat]?).bind fun x2=>
   (C bc [.int .i64 ((x1.cell 0).toInt),.int .i64 ((x1.cell 1).toInt),.list aa ((x1.cell 2).toList),.int .i64 ((x2.cell 0).toInt),.int .i64 ((x2.cell 1).toInt),.list aa ((x2.cell 2).toList)]).bind fun r3=>
   bif decide ((((V.nth r3 0).toInt):Int)<0) then
   bif (decide (0≤(IntKind.wrap .i64 (j-1))))&&(decide ((IntKind.wrap .i64 (j-1))<(aj.length:Int))) then
    (aj[(IntKind.wrap .i64 (j-1):Int).toNat]?).bind fun x4=>
    bif (decide (0≤j))&&(decide (j<(aj.length:Int))) then
    (aj[(j:Int).toNat]?).bind fun x5=>
    bif (decide (0≤j))&&(decide (j<(aj.length:Int))) then
     (aj[(j:Int).toNat]?).bind fun x6=>
     bif (decide (0≤(IntKind.wrap .i64 (j-1))))&&(decide ((IntKind.wrap .i64 (j-1))<((aj.set ((j:Int).toNat) (.agg [.int .i64 ((x4.cell 0).toInt),.int .i64 ((x4.cell 1).toInt),.list aa ((x4.cell 2).toList)])).length:Int))) then
     ((aj.set ((j:Int).toNat) (.agg [.int .i64 ((x4.cell 0).toInt),.int .i64 ((x4.cell 1).toInt),.list aa ((x4.cell 2).toList)]))[(IntKind.wrap .i64 (j-1):Int).toNat]?).bind fun x7=>
     kn (IntKind.wrap .i64 (j-1),(aj.set ((j:Int).toNat) (.agg [.int .i64 ((x4.cell 0).toInt),.int .i64 ((x4.cell 1).toInt),.list aa ((x4.cell 2).toList)])).set ((IntKind.wrap .i64 (j-1):Int).toNat) (.agg [.int .i64 ((x5.cell 0).toInt),.int .i64 ((x5.cell 1).toInt),.list aa ((x5.cell 2).toList)]))
     else none
    else none
    else none
   else none
   else
   kr (j,decide ((((V.nth r3 0).toInt):Int)<0),aj)
  else none
  else none
 else
  kr (j,false,aj)
noncomputable def wZ (C:af) (a b' i:Int):(Int × (List V))→Option ((Int × (List V)) ⊕ (Int × Bool × (List V))):=un fun j aj=>wY C a b' i j aj (fun y=>some (.inl y)) (fun r=>some (.inr r))
noncomputable def A0 (C:af) (a b' i:Int) (aj:List V) {β:Type} (kn:(Int × (List V))→Option β) (kr:(Int × Bool × (List V))→Option β):Option β:=
 bif decide ((i:Int)<b') then
  (Loop (wZ C a b' i) (i,aj)).bind (un fun (j_8:Int)=>un fun (p9:Bool) (nD:List V)=>
   kn (IntKind.wrap .i64 (i+1),nD))
 else
  kr (i,decide ((i:Int)<b'),aj)
noncomputable def E0 (C:af) (a b':Int):(Int × (List V))→Option ((Int × (List V)) ⊕ (Int × Bool × (List V))):=un fun i aj=>A0 C a b' i aj (fun y=>some (.inl y)) (fun r=>some (.inr r))
noncomputable def So (C:af):cw:=fun β n ds k=>
 bif Nat.beq n 65 then bS IG [false,false,false,true,true] [[1,2,3,0,0,0]] (@wY C) ds k else
 bif Nat.beq n 17 then bS IH [false,false,true,true] [[1,2,0,0,0]] (@A0 C) ds k else
 none
abbrev Sp (C:af) (b:cp):Prop:=cq Tryz.prog ay C (So C) 127 (cH Tryz.prog (ay.aX 127)) (ay.sin 127).aY.length b
theorem aez (C:af):Sp C (.loop (ax [1,0,0,1,0,0,1,0,0] EZ)):=
 bX IG [false,false,false,true,true] [[1,2,3,0,0,0]] (@wY C) (by kernel_rfl) (bn (bs:=[]) (by kernel_rfl) az) (fun ds=>by kernel_rfl) (fun i x=>by kernel_rfl) (fun i x β k=>by kernel_rfl) (fun β ds k=>by kernel_rfl)
theorem aeA (C:af):Sp C (.loop (ax [1,0,0] EZ)):=
 bX IH [false,false,true,true] [[1,2,0,0,0]] (@A0 C) (by kernel_rfl) (bn (bs:=[.loop (ax [1,0,0,1,0,0,1,0,0] EZ)]) (by kernel_rfl) (bD (aez C) az)) (fun ds=>by kernel_rfl) (fun i x=>by kernel_rfl) (fun i x β k=>by kernel_rfl) (fun β ds k=>by kernel_rfl)
noncomputable def Sq (C:af) (a b':Int) (aj:List V):Option (List V):=
 (Loop (E0 C a b') (IntKind.wrap .i64 (a+1),aj)).bind (un fun (air:Int)=>un fun (zJ:Bool) (Kt:List V)=>
  some [.list aa Kt])
theorem aeB {a b':Int} {aj:List V} {r:Option (List V)} (h:Sq CC a b' aj=r):CC zr [.int .i64 a,.int .i64 b',.list aa aj]=r:=
 bd (key:=127) (L:=So CC) (bs:=[.loop (ax [1,0,0] EZ)]) (by kernel_rfl) (bD (aeA CC) az) (ba (by kernel_rfl) h)
noncomputable abbrev w4:Code:=bZ Tryz.prog (ay.aX 152)
noncomputable def uh (C:af) (hi first root child:Int) (t40:Bool) (aj:List V) {β:Type} (kr:(Int)→Option β):Option β:=
 bif t40 then
  kr (IntKind.wrap .i64 (child+1))
 else
  kr child
noncomputable def rN (C:af) (hi first root:Int) (aj:List V) {β:Type} (kn:(Int × (List V))→Option β) (kr:((Int × Int × Bool × (List V)) ⊕ (Int × Int × Bool × (List V)))→Option β):Option β:=
 bif decide (((IntKind.wrap .i64 ((IntKind.wrap .i64 (root*2))+1)):Int)≥hi) then
  kr (.inl (root,IntKind.wrap .i64 ((IntKind.wrap .i64 (root*2))+1),decide (((IntKind.wrap .i64 ((IntKind.wrap .i64 (root*2))+1)):Int)≥hi),aj))
 else
  bif decide (((IntKind.wrap .i64 ((IntKind.wrap .i64 ((IntKind.wrap .i64 (root*2))+1))+1)):Int)<hi) then
  bif (decide (0≤(IntKind.wrap .i64 (first+(IntKind.wrap .i64 ((IntKind.wrap .i64 (root*2))+1))))))&&(decide ((IntKind.wrap .i64 (first+(IntKind.wrap .i64 ((IntKind.wrap .i64 (root*2))+1))))<(aj.length:Int))) then
   (aj[(IntKind.wrap .i64 (first+(IntKind.wrap .i64 ((IntKind.wrap .i64 (root*2))+1))):Int).toNat]?).bind fun x1=>
   bif (decide (0≤(IntKind.wrap .i64 ((IntKind.wrap .i64 (first+(IntKind.wrap .i64 ((IntKind.wrap .i64 (root*2))+1))))+1))))&&(decide ((IntKind.wrap .i64 ((IntKind.wrap .i64 (first+(IntKind.wrap .i64 ((IntKind.wrap .i64 (root*2))+1))))+1))<(aj.length:Int))) then
   (aj[(IntKind.wrap .i64 ((IntKind.wrap .i64 (first+(IntKind.wrap .i64 ((IntKind.wrap .i64 (root*2))+1))))+1):Int).toNat]?).bind fun x2=>
   (C bc [.int .i64 ((x1.cell 0).toInt),.int .i64 ((x1.cell 1).toInt),.list aa ((x1.cell 2).toList),.int .i64 ((x2.cell 0).toInt),.int .i64 ((x2.cell 1).toInt),.list aa ((x2.cell 2).toList)]).bind fun r3=>
   uh C hi first root (IntKind.wrap .i64 ((IntKind.wrap .i64 (root*2))+1)) (decide ((((V.nth r3 0).toInt):Int)<0)) aj (fun (mF:Int)=>
    bif (decide (0≤(IntKind.wrap .i64 (first+root))))&&(decide ((IntKind.wrap .i64 (first+root))<(aj.length:Int))) then
     (aj[(IntKind.wrap .i64 (first+root):Int).toNat]?).bind fun x5=>
     bif (decide (0≤(IntKind.wrap .i64 (first+mF))))&&(decide ((IntKind.wrap .i64 (first+mF))<(aj.length:Int))) then
     (aj[(IntKind.wrap .i64 (first+mF):Int).toNat]?).bind fun x6=>
     (C bc [.int .i64 ((x5.cell 0).toInt),.int .i64 ((x5.cell 1).toInt),.list aa ((x5.cell 2).toList),.int .i64 ((x6.cell 0).toInt),.int .i64 ((x6.cell 1).toInt),.list aa ((x6.cell 2).toList)]).bind fun r7=>
     bif !(decide ((((V.nth r7 0).toInt):Int)<0)) then
      kr (.inr (root,mF,!(decide ((((V.nth r7 0).toInt):Int)<0)),aj))
     else
      bif (decide (0≤(IntKind.wrap .i64 (first+mF))))&&(decide ((IntKind.wrap .i64 (first+mF))<(aj.length:Int))) then
      (aj[(IntKind.wrap .i64 (first+mF):Int).toNat]?).bind fun x8=>
      bif (decide (0≤(IntKind.wrap .i64 (first+root))))&&(decide ((IntKind.wrap .i64 (first+root))<(aj.length:Int))) then
       (aj[(IntKind.wrap .i64 (first+root):Int).toNat]?).bind fun x9=>
       bif (decide (0≤(IntKind.wrap .i64 (first+root))))&&(decide ((IntKind.wrap .i64 (first+root))<(aj.length:Int))) then
       (aj[(IntKind.wrap .i64 (first+root):Int).toNat]?).bind fun gl=>
       bif (decide (0≤(IntKind.wrap .i64 (first+mF))))&&(decide ((IntKind.wrap .i64 (first+mF))<((aj.set ((IntKind.wrap .i64 (first+root):Int).toNat) (.agg [.int .i64 ((x8.cell 0).toInt),.int .i64 ((x8.cell 1).toInt),.list aa ((x8.cell 2).toList)])).length:Int))) then
        ((aj.set ((IntKind.wrap .i64 (first+root):Int).toNat) (.agg [.int .i64 ((x8.cell 0).toInt),.int .i64 ((x8.cell 1).toInt),.list aa ((x8.cell 2).toList)]))[(IntKind.wrap .i64 (first+mF):Int).toNat]?).bind fun iT=>
        kn (mF,(aj.set ((IntKind.wrap .i64 (first+root):Int).toNat) (.agg [.int .i64 ((x8.cell 0).toInt),.int .i64 ((x8.cell 1).toInt),.list aa ((x8.cell 2).toList)])).set ((IntKind.wrap .i64 (first+mF):Int).toNat) (.agg [.int .i64 ((x9.cell 0).toInt),.int .i64 ((x9.cell 1).toInt),.list aa ((x9.cell 2).toList)]))
       else none
       else none
      else none
      else none
     else none
    else none)
   else none
  else none
  else
  uh C hi first root (IntKind.wrap .i64 ((IntKind.wrap .i64 (root*2))+1)) false aj (fun (mG:Int)=>
   bif (decide (0≤(IntKind.wrap .i64 (first+root))))&&(decide ((IntKind.wrap .i64 (first+root))<(aj.length:Int))) then
    (aj[(IntKind.wrap .i64 (first+root):Int).toNat]?).bind fun gH=>
    bif (decide (0≤(IntKind.wrap .i64 (first+mG))))&&(decide ((IntKind.wrap .i64 (first+mG))<(aj.length:Int))) then
    (aj[(IntKind.wrap .i64 (first+mG):Int).toNat]?).bind fun lD=>
    (C bc [.int .i64 ((gH.cell 0).toInt),.int .i64 ((gH.cell 1).toInt),.list aa ((gH.cell 2).toList),.int .i64 ((lD.cell 0).toInt),.int .i64 ((lD.cell 1).toInt),.list aa ((lD.cell 2).toList)]).bind fun E1=>
    bif !(decide ((((V.nth E1 0).toInt):Int)<0)) then
     kr (.inr (root,mG,!(decide ((((V.nth E1 0).toInt):Int)<0)),aj))
    else
     bif (decide (0≤(IntKind.wrap .i64 (first+mG))))&&(decide ((IntKind.wrap .i64 (first+mG))<(aj.length:Int))) then
     (aj[(IntKind.wrap .i64 (first+mG):Int).toNat]?).bind fun fu=>
     bif (decide (0≤(IntKind.wrap .i64 (first+root))))&&(decide ((IntKind.wrap .i64 (first+root))<(aj.length:Int))) then
      (aj[(IntKind.wrap .i64 (first+root):Int).toNat]?).bind fun tT=>
      bif (decide (0≤(IntKind.wrap .i64 (first+root))))&&(decide ((IntKind.wrap .i64 (first+root))<(aj.length:Int))) then
      (aj[(IntKind.wrap .i64 (first+root):Int).toNat]?).bind fun JR=>
      bif (decide (0≤(IntKind.wrap .i64 (first+mG))))&&(decide ((IntKind.wrap .i64 (first+mG))<((aj.set ((IntKind.wrap .i64 (first+root):Int).toNat) (.agg [.int .i64 ((fu.cell 0).toInt),.int .i64 ((fu.cell 1).toInt),.list aa ((fu.cell 2).toList)])).length:Int))) then
       ((aj.set ((IntKind.wrap .i64 (first+root):Int).toNat) (.agg [.int .i64 ((fu.cell 0).toInt),.int .i64 ((fu.cell 1).toInt),.list aa ((fu.cell 2).toList)]))[(IntKind.wrap .i64 (first+mG):Int).toNat]?).bind fun mA=>
       kn (mG,(aj.set ((IntKind.wrap .i64 (first+root):Int).toNat) (.agg [.int .i64 ((fu.cell 0).toInt),.int .i64 ((fu.cell 1).toInt),.list aa ((fu.cell 2).toList)])).set ((IntKind.wrap .i64 (first+mG):Int).toNat) (.agg [.int .i64 ((tT.cell 0).toInt),.int .i64 ((tT.cell 1).toInt),.list aa ((tT.cell 2).toList)]))
      else none
      else none
     else none
     else none
    else none
   else none)
noncomputable def nE (C:af) (hi first:Int):(Int × (List V))→Option ((Int × (List V)) ⊕ ((Int × Int × Bool × (List V)) ⊕ (Int × Int × Bool × (List V)))):=un fun root aj=>rN C hi first root aj (fun y=>some (.inl y)) (fun r=>some (.inr r))
noncomputable def Sr (C:af):cw:=fun β n ds k=>
 bif Nat.beq n 655 then lq I7 [[1,2,3,0,6]] (@uh C) ds k else
 bif Nat.beq n 17 then bS I8 [false,false,true,true] [[1,2,0,0,0,0],[1,2,0,0,0,0]] (@rN C) ds k else
 none
abbrev Ss (C:af) (b:cp):Prop:=cq Tryz.prog ay C (Sr C) 152 (cH Tryz.prog (ay.aX 152)) (ay.sin 152).aY.length b
theorem aeC (C:af):Ss C (.cond 40 (ax [1,0,0,0,1,1,0,1,0] w4) (ax [1,0,0,0,1,1,0,1,1] w4)):=
 mq I7 [[1,2,3,0,6]] (@uh C) (by kernel_rfl) (bn (bs:=[]) (by kernel_rfl) az) (bn (bs:=[]) (by kernel_rfl) az) (fun ds=>by kernel_rfl) (fun i β k=>by kernel_rfl) (fun β ds k=>by kernel_rfl)
theorem aeD (C:af):Ss C (.loop (ax [1,0,0] w4)):=
 bX I8 [false,false,true,true] [[1,2,0,0,0,0],[1,2,0,0,0,0]] (@rN C) (by kernel_rfl) (bn (bs:=[.cond 40 (ax [1,0,0,0,1,1,0,1,0] w4) (ax [1,0,0,0,1,1,0,1,1] w4)]) (by kernel_rfl) (bD (aeC C) az)) (fun ds=>by kernel_rfl) (fun i x=>by kernel_rfl) (fun i x β k=>by kernel_rfl) (fun β ds k=>by kernel_rfl)
noncomputable def Su (C:af) (lo hi first:Int) (aj:List V):Option (List V):=
 (Loop (nE C hi first) (lo,aj)).bind (cY (un fun (ais:Int)=>un fun (ait:Int)=>un fun (Pm:Bool) (aeE:List V)=>
  some [.list aa aeE]) (un fun (aiu:Int)=>un fun (aiv:Int)=>un fun (Jy:Bool) (qn:List V)=>
  some [.list aa qn]))
theorem aeF {lo hi first:Int} {aj:List V} {r:Option (List V)} (h:Su CC lo hi first aj=r):CC zw [.int .i64 lo,.int .i64 hi,.int .i64 first,.list aa aj]=r:=
 bd (key:=152) (L:=Sr CC) (bs:=[.loop (ax [1,0,0] w4)]) (by kernel_rfl) (bD (aeD CC) az) (ba (by kernel_rfl) h)
noncomputable abbrev E2:Code:=bZ Tryz.prog (ay.aX 128)
noncomputable def A1 (C:af) (first lo hi i:Int) (aj:List V) {β:Type} (kn:(Int × (List V))→Option β) (kr:(Int × Bool × (List V))→Option β):Option β:=
 bif decide ((i:Int)≥0) then
  (C zw [.int .i64 i,.int .i64 hi,.int .i64 first,.list aa aj]).bind fun r1=>
  kn (IntKind.wrap .i64 (i-1),(V.nth r1 0).toList)
 else
  kr (i,decide ((i:Int)≥0),aj)
noncomputable def E3 (C:af) (first lo hi:Int):(Int × (List V))→Option ((Int × (List V)) ⊕ (Int × Bool × (List V))):=un fun i aj=>A1 C first lo hi i aj (fun y=>some (.inl y)) (fun r=>some (.inr r))
noncomputable def A3 (C:af) (first lo i:Int) (aj:List V) {β:Type} (kn:(Int × (List V))→Option β) (kr:(Int × Bool × (List V))→Option β):Option β:=
 bif decide ((i:Int)≥0) then
  bif (decide (0≤(IntKind.wrap .i64 (first+i))))&&(decide ((IntKind.wrap .i64 (first+i))<(aj.length:Int))) then
  (aj[(IntKind.wrap .i64 (first+i):Int).toNat]?).bind fun x5=>
  bif (decide (0≤first))&&(decide (first<(aj.length:Int))) then
   (aj[(first:Int).toNat]?).bind fun x6=>
   bif (decide (0≤first))&&(decide (first<(aj.length:Int))) then
   (aj[(first:Int).toNat]?).bind fun x7=>
   bif (decide (0≤(IntKind.wrap .i64 (first+i))))&&(decide ((IntKind.wrap .i64 (first+i))<((aj.set ((first:Int).toNat) (.agg [.int .i64 ((x5.cell 0).toInt),.int .i64 ((x5.cell 1).toInt),.list aa ((x5.cell 2).toList)])).length:Int))) then
    ((aj.set ((first:Int).toNat) (.agg [.int .i64 ((x5.cell 0).toInt),.int .i64 ((x5.cell 1).toInt),.list aa ((x5.cell 2).toList)]))[(IntKind.wrap .i64 (first+i):Int).toNat]?).bind fun x8=>
    (C zw [.int .i64 lo,.int .i64 i,.int .i64 first,.list aa ((aj.set ((first:Int).toNat) (.agg [.int .i64 ((x5.cell 0).toInt),.int .i64 ((x5.cell 1).toInt),.list aa ((x5.cell 2).toList)])).set ((IntKind.wrap .i64 (first+i):Int).toNat) (.agg [.int .i64 ((x6.cell 0).toInt),.int .i64 ((x6.cell 1).toInt),.list aa ((x6.cell 2).toList)]))]).bind fun r9=>
    kn (IntKind.wrap .i64 (i-1),(V.nth r9 0).toList)
   else none
   else none
  else none
  else none
 else
  kr (i,decide ((i:Int)≥0),aj)
noncomputable def E4 (C:af) (first lo:Int):(Int × (List V))→Option ((Int × (List V)) ⊕ (Int × Bool × (List V))):=un fun i aj=>A3 C first lo i aj (fun y=>some (.inl y)) (fun r=>some (.inr r))
noncomputable def Sv (C:af):cw:=fun β n ds k=>
 bif Nat.beq n 65 then bS II [false,false,false,true,true] [[1,2,3,0,0,0]] (@A1 C) ds k else
 bif Nat.beq n 129 then bS IJ [false,false,true,true] [[1,2,0,0,0]] (@A3 C) ds k else
 none
abbrev Sw (C:af) (b:cp):Prop:=cq Tryz.prog ay C (Sv C) 128 (cH Tryz.prog (ay.aX 128)) (ay.sin 128).aY.length b
theorem aeG (C:af):Sw C (.loop (ax [1,1,1,0,1,0,0] E2)):=
 bX II [false,false,false,true,true] [[1,2,3,0,0,0]] (@A1 C) (by kernel_rfl) (bn (bs:=[]) (by kernel_rfl) az) (fun ds=>by kernel_rfl) (fun i x=>by kernel_rfl) (fun i x β k=>by kernel_rfl) (fun β ds k=>by kernel_rfl)
theorem aeH (C:af):Sw C (.loop (ax [1,1,1,1,1,0,0] E2)):=
 bX IJ [false,false,true,true] [[1,2,0,0,0]] (@A3 C) (by kernel_rfl) (bn (bs:=[]) (by kernel_rfl) az) (fun ds=>by kernel_rfl) (fun i x=>by kernel_rfl) (fun i x β k=>by kernel_rfl) (fun β ds k=>by kernel_rfl)
noncomputable def Sy (C:af) (a b':Int) (aj:List V):Option (List V):=
 (Loop (E3 C a 0 (IntKind.wrap .i64 (b'-a))) (IntKind.wrap .i64 (Int.tdiv (IntKind.wrap .i64 ((IntKind.wrap .i64 (b'-a))-1)) 2),aj)).bind (un fun (i_2:Int)=>un fun (lB:Bool) (aeI:List V)=>
  (Loop (E4 C a 0) (IntKind.wrap .i64 ((IntKind.wrap .i64 (b'-a))-1),aeI)).bind (un fun (aiw:Int)=>un fun (wo:Bool) (lJ:List V)=>
   some [.list aa lJ]))
theorem aeJ {a b':Int} {aj:List V} {r:Option (List V)} (h:Sy CC a b' aj=r):CC zt [.int .i64 a,.int .i64 b',.list aa aj]=r:=
 bd (key:=128) (L:=Sv CC) (bs:=[.loop (ax [1,1,1,0,1,0,0] E2),.loop (ax [1,1,1,1,1,0,0] E2)]) (by kernel_rfl) (bD (aeG CC) (bD (aeH CC) az)) (ba (by kernel_rfl) h)
noncomputable abbrev Sz:Code:=bZ Tryz.prog (ay.aX 131)
noncomputable def w5 (C:af) (i j:Int) (aj:List V) {β:Type} (kn:(Int × Int × (List V))→Option β) (kr:(Int × Int × Bool × (List V))→Option β):Option β:=
 bif decide ((i:Int)<j) then
  bif (decide (0≤j))&&(decide (j<(aj.length:Int))) then
  (aj[(j:Int).toNat]?).bind fun x1=>
  bif (decide (0≤i))&&(decide (i<(aj.length:Int))) then
   (aj[(i:Int).toNat]?).bind fun x2=>
   bif (decide (0≤i))&&(decide (i<(aj.length:Int))) then
   (aj[(i:Int).toNat]?).bind fun x3=>
   bif (decide (0≤j))&&(decide (j<((aj.set ((i:Int).toNat) (.agg [.int .i64 ((x1.cell 0).toInt),.int .i64 ((x1.cell 1).toInt),.list aa ((x1.cell 2).toList)])).length:Int))) then
    ((aj.set ((i:Int).toNat) (.agg [.int .i64 ((x1.cell 0).toInt),.int .i64 ((x1.cell 1).toInt),.list aa ((x1.cell 2).toList)]))[(j:Int).toNat]?).bind fun x4=>
    kn (IntKind.wrap .i64 (i+1),IntKind.wrap .i64 (j-1),(aj.set ((i:Int).toNat) (.agg [.int .i64 ((x1.cell 0).toInt),.int .i64 ((x1.cell 1).toInt),.list aa ((x1.cell 2).toList)])).set ((j:Int).toNat) (.agg [.int .i64 ((x2.cell 0).toInt),.int .i64 ((x2.cell 1).toInt),.list aa ((x2.cell 2).toList)]))
   else none
   else none
  else none
  else none
 else
  kr (i,j,decide ((i:Int)<j),aj)
noncomputable def A4 (C:af):(Int × Int × (List V))→Option ((Int × Int × (List V)) ⊕ (Int × Int × Bool × (List V))):=un fun i=>un fun j aj=>w5 C i j aj (fun y=>some (.inl y)) (fun r=>some (.inr r))
noncomputable def SA (C:af):cw:=fun β n ds k=>
 bif Nat.beq n 33 then bS IP [true,true,true] [[0,0,0,0]] (@w5 C) ds k else
 none
abbrev aeK (C:af) (b:cp):Prop:=cq Tryz.prog ay C (SA C) 131 (cH Tryz.prog (ay.aX 131)) (ay.sin 131).aY.length b
theorem aeL (C:af):aeK C (.loop (ax [1,1,0,0] Sz)):=
 bX IP [true,true,true] [[0,0,0,0]] (@w5 C) (by kernel_rfl) (bn (bs:=[]) (by kernel_rfl) az) (fun ds=>by kernel_rfl) (fun i x=>by kernel_rfl) (fun i x β k=>by kernel_rfl) (fun β ds k=>by kernel_rfl)
noncomputable def SB (C:af) (a b':Int) (aj:List V):Option (List V):=
 (Loop (A4 C) (a,IntKind.wrap .i64 (b'-1),aj)).bind (un fun (cL:Int)=>un fun (Km:Int)=>un fun (wm:Bool) (aeM:List V)=>
  some [.list aa aeM])
theorem aeN {a b':Int} {aj:List V} {r:Option (List V)} (h:SB CC a b' aj=r):CC D3 [.int .i64 a,.int .i64 b',.list aa aj]=r:=
 bd (key:=131) (L:=SA CC) (bs:=[.loop (ax [1,1,0,0] Sz)]) (by kernel_rfl) (bD (aeL CC) az) (ba (by kernel_rfl) h)
end Go.AM
set_option maxRecDepth 100000
set_option maxHeartbeats 4000000
namespace Go.AM.SX
open Go.Proofs Go.Sort
def aB (a b:XE):Bool:=decide (bU a b<0)
theorem rO (a b:XE):(aB a b=true)=(bU a b<0):=by unfold aB;rw[dw]
theorem qo (a b:XE):((!aB a b)=true)= ¬(bU a b<0):=by unfold aB;simp
abbrev eA (d:Array XE):List V:=oW XE.enc d
theorem aeO (a j:Nat) (d:Array XE):insInner aB a (j+1) d=if j+1>a then (if bU d[j+1]! d[j]! <0 then insInner aB a j (swp d (j+1) j) else d) else d:=by
 rw[Sn]
 by_cases h1:j+1>a
 ·rw[ag h1];simp only[h1,nH,kb,rO]
 ·rw[ai h1,ai (by simp[h1])]
theorem Ku (hi first root:Nat) (d:Array XE):siftDown aB hi first root d=
  if 2*root+1≥hi then d else
   if 2*root+2<hi then
    (if bU d[first+(2*root+1)]! d[first+(2*root+2)]! <0 then
     (if bU d[first+root]! d[first+(2*root+2)]! <0 then siftDown aB hi first (2*root+2) (swp d (first+root) (first+(2*root+2))) else d)
    else (if bU d[first+root]! d[first+(2*root+1)]! <0 then siftDown aB hi first (2*root+1) (swp d (first+root) (first+(2*root+1))) else d))
   else (if bU d[first+root]! d[first+(2*root+1)]! <0 then siftDown aB hi first (2*root+1) (swp d (first+root) (first+(2*root+1))) else d):=by
 rw[siftDown]
 by_cases h1:2*root+1≥hi
 ·rw[qt h1,ag h1]
 rw[dif_neg h1,ai h1]
 by_cases U:2*root+2<hi
 ·rw[ag U]
  by_cases h3:bU d[first+(2*root+1)]! d[first+(2*root+2)]! <0
  ·rw[ag h3,ag (by simp only[aM,dw,rO];exact ⟨U,h3⟩)]
   simp only[qo]
   by_cases h4:bU d[first+root]! d[first+(2*root+2)]! <0
   ·rw[ai (pb h4),qt U,ag h4]
   ·rw[ag h4,ai h4]
  ·rw[ai h3,ai (by simp only[aM,dw,rO];exact fun h=>h3 h.2)]
   simp only[qo]
   by_cases h4:bU d[first+root]! d[first+(2*root+1)]! <0
   ·rw[ai (pb h4),ag h4]
   ·rw[ag h4,ai h4]
 ·rw[ai U,ai (by simp only[aM,dw,rO];exact fun h=>U h.1)]
  simp only[qo]
  by_cases h4:bU d[first+root]! d[first+(2*root+1)]! <0
  ·rw[ai (pb h4),ag h4]
  ·rw[ag h4,ai h4]
theorem SC {a b i:Nat}: ∀(j:Nat) (d:Array XE),j<d.size→d.size<1152921504606846976→
  ∃j' t,Loop (wZ CC a b i) ((j:Int),eA d)=some (j',t,eA (insInner aB a j d))
 | 0,d,hj,hs=>⟨(0:Nat),false,bq (by
   simp (disch:=omega) only[wZ,wY,un,av,ai]
   rfl)⟩
 | j+1,d,hj,hs=>by
  obtain ⟨j',t,ih⟩:=SC (a:=a) (b:=b) (i:=i) j (swp d (j+1) j) (by rw[size_swp];omega) (by rw[size_swp];omega)
  rw[aeO]
  by_cases h1:j+1>a
  ·rw[ag h1]
   have e:wZ CC a b i (((j+1:Nat):Int),eA d)=if bU d[j+1]! d[j]! <0 then some (.inl ((j:Int),eA (swp d (j+1) j))) else some (.inr (((j+1:Nat):Int),decide (bU d[j+1]! d[j]! <0),eA d)):=by
    simp (disch:=omega) only[wZ,wY,un,av,ca,fH,ag,ai,wrap64,dt,fy,Int.toNat_natCast,Option.bind_some,fv,fx,XE.bI,XE.bJ,XE.bK,XE.re,fw,gK,fY,fW,V.aI,V.toInt_int,cond_true,cond_false,ug]
    rfl
   by_cases U:bU d[j+1]! d[j]! <0
   ·rw[ag U] at e⊢
    exact ⟨j',t,(ct e).trans ih⟩
   ·rw[ai U] at e⊢
    exact ⟨_,_,bq e⟩
  ·rw[ai h1]
   exact ⟨((j+1:Nat):Int),false,bq (by
    simp (disch:=omega) only[wZ,wY,un,av,ai])⟩
theorem aeP {a b:Nat}: ∀(n i:Nat) (d:Array XE),b-i=n→b≤d.size→d.size<1152921504606846976→
  ∃j' t,Loop (E0 CC a b) ((i:Int),eA d)=some (j',t,eA (insOuter aB a b i d)):=by
 intro n
 induction n with
 | zero=>
  intro i d hn hb hs
  rw[insOuter,ai (by omega)]
  exact ⟨(i:Int),false,bq (by
   simp (disch:=omega) only[E0,A0,un,rM,cond_false])⟩
 | succ n ih=>
  intro i d hn hb hs
  obtain ⟨j1,t1,h1⟩:=SC (a:=a) (b:=b) (i:=i) i d (by omega) hs
  obtain ⟨j',t,U⟩:=ih (i+1) (insInner aB a i d) (by omega) (by rw[Kr];omega) (by rw[Kr];omega)
  rw[insOuter,ag (by omega)]
  refine ⟨j',t,(ct ?_).trans U⟩
  simp (disch:=omega) only[E0,A0,un,av,ag,h1,Option.bind_some,dt,wrap64]
theorem SD {a b:Nat} {d:Array XE} (hb:b≤d.size) (hs:d.size<1152921504606846976) (ha:a<1152921504606846976):
  CC zr [.int .i64 (a:Int),.int .i64 (b:Int),.list aa (eA d)]=some [.list aa (eA (insertionSort aB d a b))]:=by
 refine aeB ?_
 unfold Sq
 obtain ⟨j',t,h⟩:=aeP (a:=a) (b:=b) _ (a+1) d rfl hb hs
 simp (disch:=omega) only[dt,wrap64]
 rw[h]
 rfl
theorem aeQ (hi first:Nat): ∀(n root:Nat) (d:Array XE),hi-root≤n→root<1152921504606846976→first+hi≤d.size→d.size<1152921504606846976→
  (∃x y z,Loop (nE CC hi first) ((root:Int),eA d)=some (.inl (x,y,z,eA (siftDown aB hi first root d))))∨
  (∃x y z,Loop (nE CC hi first) ((root:Int),eA d)=some (.inr (x,y,z,eA (siftDown aB hi first root d)))):=by
 intro n
 induction n with
 | zero=>
  intro root d hn hr hb hs
  rw[Ku,ag (by omega)]
  exact .inl ⟨(root:Int),((root*2+1:Nat):Int),true,bq (by
   simp (disch:=omega) only[nE,rN,un,AY,dt,wrap64];rw[mE (by omega)];rfl)⟩
 | succ n ih=>
  intro root d hn hr hb hs
  by_cases h1:2*root+1≥hi
  ·rw[Ku,ag h1]
   exact .inl ⟨(root:Int),((root*2+1:Nat):Int),true,bq (by
    simp (disch:=omega) only[nE,rN,un,AY,dt,wrap64];rw[mE (by omega)];rfl)⟩
  ·have go: ∀c:Nat,c<hi→root<c→(nE CC hi first ((root:Int),eA d)=
      if bU d[first+root]! d[first+c]! <0 then some (.inl ((c:Int),eA (swp d (first+root) (first+c)))) else some (.inr (.inr ((root:Int),(c:Int),true,eA d))))→
     siftDown aB hi first root d=(if bU d[first+root]! d[first+c]! <0 then siftDown aB hi first c (swp d (first+root) (first+c)) else d)→
     ((∃x y z,Loop (nE CC hi first) ((root:Int),eA d)=some (.inl (x,y,z,eA (siftDown aB hi first root d))))∨
     (∃x y z,Loop (nE CC hi first) ((root:Int),eA d)=some (.inr (x,y,z,eA (siftDown aB hi first root d))))):=by
    intro c hc hrc e1 e2
    rw[e2]
    by_cases h3:bU d[first+root]! d[first+c]! <0
    ·rw[ag h3] at e1
     rw[ag h3,ct e1]
     exact ih c _ (by omega) (by omega) (by rw[size_swp];omega) (by rw[size_swp];omega)
    ·rw[ai h3] at e1
     rw[ai h3,bq e1]
     exact .inr ⟨_,_,_,rfl⟩
   have e0:=Ku hi first root d
   rw[ai h1] at e0
   by_cases U:2*root+2<hi
   ·rw[ag U] at e0
    by_cases h3:bU d[first+(2*root+1)]! d[first+(2*root+2)]! <0
    ·rw[ag h3] at e0
     refine go (2*root+2) (by omega) (by omega) ?_ e0
     rw[ka 2 root] at h3
     simp (disch:=omega) only[nE,rN,un,AY,dt,fy,wrap64]
     rw[av,ai (by omega),av,ag (by omega)]
     simp (disch:=omega) only[uh,av,ca,fH,ag,ai,wrap64,dt,fy,Int.toNat_natCast,Option.bind_some,fv,fx,XE.bI,XE.bJ,XE.bK,XE.re,fw,gK,fY,fW,V.aI,V.toInt_int,cond_true,cond_false,ka 2 root,mE]
     by_cases h4:bU d[first+root]! d[first+(root*2+2)]! <0
     ·simp only[h4,cP];rfl
     ·simp only[h4,fa];rfl
    ·rw[ai h3] at e0
     refine go (2*root+1) (by omega) (by omega) ?_ e0
     rw[ka 2 root] at h3
     simp (disch:=omega) only[nE,rN,un,AY,dt,fy,wrap64]
     rw[av,ai (by omega),av,ag (by omega)]
     simp (disch:=omega) only[uh,av,ca,fH,ag,ai,wrap64,dt,fy,Int.toNat_natCast,Option.bind_some,fv,fx,XE.bI,XE.bJ,XE.bK,XE.re,fw,gK,fY,fW,V.aI,V.toInt_int,cond_true,cond_false,ka 2 root,rM]
     by_cases h4:bU d[first+root]! d[first+(root*2+1)]! <0
     ·simp only[h4,cP];rfl
     ·simp only[h4,fa];rfl
   ·rw[ai U] at e0
    refine go (2*root+1) (by omega) (by omega) ?_ e0
    simp (disch:=omega) only[nE,rN,un,AY,dt,fy,wrap64]
    rw[av,ai (by omega),av,ai (by omega)]
    simp (disch:=omega) only[uh,av,ca,fH,ag,ai,wrap64,dt,fy,Int.toNat_natCast,Option.bind_some,fv,fx,XE.bI,XE.bJ,XE.bK,XE.re,fw,gK,fY,fW,V.aI,V.toInt_int,cond_true,cond_false,ka 2 root]
    by_cases h4:bU d[first+root]! d[first+(root*2+1)]! <0
    ·simp only[h4,cP];rfl
    ·simp only[h4,fa];rfl
theorem SE {lo hi first:Nat} {d:Array XE} (hl:lo<1152921504606846976) (hb:first+hi≤d.size) (hs:d.size<1152921504606846976):
  CC zw [.int .i64 (lo:Int),.int .i64 (hi:Int),.int .i64 (first:Int),.list aa (eA d)]=some [.list aa (eA (siftDown aB hi first lo d))]:=by
 refine aeF ?_
 unfold Su
 rcases aeQ hi first _ lo d (bQ _) hl hb hs with ⟨x,y,z,h⟩|⟨x,y,z,h⟩
 ·rw[h];rfl
 ·rw[h];rfl
theorem SF {hi first:Nat}: ∀(k:Nat) (d:Array XE),k<1152921504606846976→first+hi≤d.size→d.size<1152921504606846976→
  ∃x y,Loop (E3 CC first 0 hi) ((k:Int)-1,eA d)=some (x,y,eA (heapBuild aB hi first k d))
 | 0,d,hk,hb,hs=>⟨-1,false,bq (by
   simp (disch:=omega) only[E3,A1,un,av,ai]
   rfl)⟩
 | k+1,d,hk,hb,hs=>by
  obtain ⟨x,y,ih⟩:=SF (hi:=hi) (first:=first) k (siftDown aB hi first k d) (by omega) (by rw[AZ _ _ _ _ _ (bQ _)];omega) (by rw[AZ _ _ _ _ _ (bQ _)];omega)
  refine ⟨x,y,(ct ?_).trans ih⟩
  simp (disch:=omega) only[E3,A1,un,av,ag,ug,SE,Option.bind_some,V.aI,V.bR,wrap64]
theorem SG {first:Nat}: ∀(k:Nat) (d:Array XE),k<1152921504606846976→first+k≤d.size→d.size<1152921504606846976→
  ∃x y,Loop (E4 CC first 0) ((k:Int)-1,eA d)=some (x,y,eA (heapPop aB first k d))
 | 0,d,hk,hb,hs=>⟨-1,false,bq (by
   simp (disch:=omega) only[E4,A3,un,av,ai]
   rfl)⟩
 | k+1,d,hk,hb,hs=>by
  obtain ⟨x,y,ih⟩:=SG (first:=first) k (siftDown aB k first 0 (swp d first (first+k))) (by omega) (by rw[AZ _ _ _ _ _ (bQ _),size_swp];omega) (by rw[AZ _ _ _ _ _ (bQ _),size_swp];omega)
  refine ⟨x,y,(ct ?_).trans ih⟩
  have jU:=SE (lo:=0) (hi:=k) (first:=first) (d:=swp d first (first+k)) (by omega) (by rw[size_swp];omega) (by rw[size_swp];omega)
  unfold swp at jU⊢
  rw[show ((0:Nat):Int)=0 from rfl] at jU
  simp (disch:=omega) only[E4,A3,un,ug,av,ca,fH,ag,ai,wrap64,dt,fy,Int.toNat_natCast,Option.bind_some,fv,fx,XE.bI,XE.bJ,XE.bK,XE.re,fw,gK,fY,fW,V.aI,V.toInt_int,cond_true,cond_false]
  rw[jU]
  simp (disch:=omega) only[Option.bind_some,V.aI,V.bR,wrap64]
theorem aeR {a b:Nat} {d:Array XE} (fl:a<b) (hb:b≤d.size) (hs:d.size<1152921504606846976):
  CC zt [.int .i64 (a:Int),.int .i64 (b:Int),.list aa (eA d)]=some [.list aa (eA (heapSort aB d a b))]:=by
 refine aeJ ?_
 unfold Sy
 obtain ⟨x,y,h1⟩:=SF (hi:=b-a) (first:=a) ((b-a-1)/2+1) d (by omega) (by omega) hs
 obtain ⟨x2,y2,U⟩:=SG (first:=a) (b-a) (heapBuild aB (b-a) a ((b-a-1)/2+1) d) (by omega) (by rw[Ks];omega) (by rw[Ks];omega)
 have e1:((((b-a-1)/2+1:Nat):Int)-1)=Int.tdiv (((b-a:Nat):Int)-1) 2:=by
  rw[Int.tdiv_eq_ediv_of_nonneg (by omega)]
  omega
 rw[e1] at h1
 simp (disch:=omega) only[lI,wrap64]
 rw[h1]
 simp only[Option.bind_some,un]
 rw[U]
 rfl
theorem aeS: ∀(n i j:Nat) (d:Array XE),j-i≤n→j<d.size→d.size<1152921504606846976→
  ∃x y z,Loop (A4 CC) ((i:Int),(j:Int),eA d)=some (x,y,z,eA (reverseLoop i j d)):=by
 intro n
 induction n with
 | zero=>
  intro i j d hn hj hs
  rw[reverseLoop,ai (by omega)]
  exact ⟨(i:Int),(j:Int),false,bq (by
   simp (disch:=omega) only[A4,w5,un,rM,cond_false])⟩
 | succ n ih=>
  intro i j d hn hj hs
  rw[reverseLoop]
  by_cases h:i<j
  ·rw[ag h]
   obtain ⟨x,y,z,U⟩:=ih (i+1) (j-1) (swp d i j) (by omega) (by rw[size_swp];omega) (by rw[size_swp];omega)
   refine ⟨x,y,z,(ct ?_).trans U⟩
   simp (disch:=omega) only[A4,w5,un,av,ca,fH,ag,ai,wrap64,dt,fy,Int.toNat_natCast,Option.bind_some,fv,fx,XE.bI,XE.bJ,XE.bK,XE.re,fw,gK,fY,fW,V.aI,V.toInt_int,cond_true,cond_false,jC]
   rfl
  ·rw[ai h]
   exact ⟨(i:Int),(j:Int),false,bq (by
    simp (disch:=omega) only[A4,w5,un,rM,cond_false])⟩
theorem aeT {a b:Nat} {d:Array XE} (fl:a<b) (hb:b≤d.size) (hs:d.size<1152921504606846976):
  CC D3 [.int .i64 (a:Int),.int .i64 (b:Int),.list aa (eA d)]=some [.list aa (eA (reverseRange d a b))]:=by
 refine aeN ?_
 unfold SB
 obtain ⟨x,y,z,h⟩:=aeS _ a (b-1) d (bQ _) (by omega) hs
 simp (disch:=omega) only[jC,wrap64]
 rw[h]
 rfl
end Go.AM.SX
set_option maxRecDepth 100000
namespace Go.AM
open Go.Proofs
noncomputable abbrev oX:Code:=bZ Tryz.prog (ay.aX 134)
noncomputable def A5 (C:af) (a j:Int) (aj:List V) (i:Int) {β:Type} (kn:Int→Option β) (kr:(Int × Bool)→Option β):Option β:=
 bif decide ((i:Int)≤j) then
  bif (decide (0≤i))&&(decide (i<(aj.length:Int))) then
  (aj[(i:Int).toNat]?).bind fun x5=>
  bif (decide (0≤a))&&(decide (a<(aj.length:Int))) then
   (aj[(a:Int).toNat]?).bind fun x6=>
   (C bc [.int .i64 ((x5.cell 0).toInt),.int .i64 ((x5.cell 1).toInt),.list aa ((x5.cell 2).toList),.int .i64 ((x6.cell 0).toInt),.int .i64 ((x6.cell 1).toInt),.list aa ((x6.cell 2).toList)]).bind fun r7=>
   bif decide ((((V.nth r7 0).toInt):Int)<0) then
   kn (IntKind.wrap .i64 (i+1))
   else
   kr (i,decide ((((V.nth r7 0).toInt):Int)<0))
  else none
  else none
 else
  kr (i,false)
noncomputable def A6 (C:af) (a j:Int) (aj:List V):(Int)→Option ((Int) ⊕ (Int × Bool)):=fun i=>A5 C a j aj i (fun y=>some (.inl y)) (fun r=>some (.inr r))
noncomputable def w6 (C:af) (a i:Int) (aj:List V) (j:Int) {β:Type} (kn:Int→Option β) (kr:(Int × Bool)→Option β):Option β:=
 bif decide ((i:Int)≤j) then
  bif (decide (0≤j))&&(decide (j<(aj.length:Int))) then
  (aj[(j:Int).toNat]?).bind fun gl=>
  bif (decide (0≤a))&&(decide (a<(aj.length:Int))) then
   (aj[(a:Int).toNat]?).bind fun iT=>
   (C bc [.int .i64 ((gl.cell 0).toInt),.int .i64 ((gl.cell 1).toInt),.list aa ((gl.cell 2).toList),.int .i64 ((iT.cell 0).toInt),.int .i64 ((iT.cell 1).toInt),.list aa ((iT.cell 2).toList)]).bind fun gI=>
   bif !(decide ((((V.nth gI 0).toInt):Int)<0)) then
   kn (IntKind.wrap .i64 (j-1))
   else
   kr (j,!(decide ((((V.nth gI 0).toInt):Int)<0)))
  else none
  else none
 else
  kr (j,false)
noncomputable def w7 (C:af) (a i:Int) (aj:List V):(Int)→Option ((Int) ⊕ (Int × Bool)):=fun j=>w6 C a i aj j (fun y=>some (.inl y)) (fun r=>some (.inr r))
noncomputable def A7 (C:af) (a j:Int) (aj:List V) (i:Int) {β:Type} (kn:Int→Option β) (kr:(Int × Bool)→Option β):Option β:=
 bif decide ((i:Int)≤j) then
  bif (decide (0≤i))&&(decide (i<(aj.length:Int))) then
  (aj[(i:Int).toNat]?).bind fun jz=>
  bif (decide (0≤a))&&(decide (a<(aj.length:Int))) then
   (aj[(a:Int).toNat]?).bind fun rF=>
   (C bc [.int .i64 ((jz.cell 0).toInt),.int .i64 ((jz.cell 1).toInt),.list aa ((jz.cell 2).toList),.int .i64 ((rF.cell 0).toInt),.int .i64 ((rF.cell 1).toInt),.list aa ((rF.cell 2).toList)]).bind fun SH=>
   bif decide ((((V.nth SH 0).toInt):Int)<0) then
   kn (IntKind.wrap .i64 (i+1))
   else
   kr (i,decide ((((V.nth SH 0).toInt):Int)<0))
  else none
  else none
 else
  kr (i,false)
noncomputable def A8 (C:af) (a j:Int) (aj:List V):(Int)→Option ((Int) ⊕ (Int × Bool)):=fun i=>A7 C a j aj i (fun y=>some (.inl y)) (fun r=>some (.inr r))
noncomputable def w8 (C:af) (a i:Int) (aj:List V) (j:Int) {β:Type} (kn:Int→Option β) (kr:(Int × Bool)→Option β):Option β:=
 bif decide ((i:Int)≤j) then
  bif (decide (0≤j))&&(decide (j<(aj.length:Int))) then
  (aj[(j:Int).toNat]?).bind fun ui=>
  bif (decide (0≤a))&&(decide (a<(aj.length:Int))) then
   (aj[(a:Int).toNat]?).bind fun uj=>
   (C bc [.int .i64 ((ui.cell 0).toInt),.int .i64 ((ui.cell 1).toInt),.list aa ((ui.cell 2).toList),.int .i64 ((uj.cell 0).toInt),.int .i64 ((uj.cell 1).toInt),.list aa ((uj.cell 2).toList)]).bind fun E5=>
   bif !(decide ((((V.nth E5 0).toInt):Int)<0)) then
   kn (IntKind.wrap .i64 (j-1))
   else
   kr (j,!(decide ((((V.nth E5 0).toInt):Int)<0)))
  else none
  else none
 else
  kr (j,false)
noncomputable def w9 (C:af) (a i:Int) (aj:List V):(Int)→Option ((Int) ⊕ (Int × Bool)):=fun j=>w8 C a i aj j (fun y=>some (.inl y)) (fun r=>some (.inr r))
noncomputable def A9 (C:af) (a i j:Int) (aj:List V) {β:Type} (kn:(Int × Int × (List V))→Option β) (kr:(Int × Int × Bool × (List V))→Option β):Option β:=
 (Loop (A8 C a j aj) i).bind (un fun (kO:Int) (Pp:Bool)=>
  (Loop (w9 C a kO aj) j).bind (un fun (nF:Int) (Zj:Bool)=>
   bif decide ((kO:Int)>nF) then
    kr (kO,nF,decide ((kO:Int)>nF),aj)
   else
    bif (decide (0≤nF))&&(decide (nF<(aj.length:Int))) then
    (aj[(nF:Int).toNat]?).bind fun qp=>
    bif (decide (0≤kO))&&(decide (kO<(aj.length:Int))) then
     (aj[(kO:Int).toNat]?).bind fun Kv=>
     bif (decide (0≤kO))&&(decide (kO<(aj.length:Int))) then
     (aj[(kO:Int).toNat]?).bind fun x35=>
     bif (decide (0≤nF))&&(decide (nF<((aj.set ((kO:Int).toNat) (.agg [.int .i64 ((qp.cell 0).toInt),.int .i64 ((qp.cell 1).toInt),.list aa ((qp.cell 2).toList)])).length:Int))) then
      ((aj.set ((kO:Int).toNat) (.agg [.int .i64 ((qp.cell 0).toInt),.int .i64 ((qp.cell 1).toInt),.list aa ((qp.cell 2).toList)]))[(nF:Int).toNat]?).bind fun x36=>
      kn (IntKind.wrap .i64 (kO+1),IntKind.wrap .i64 (nF-1),(aj.set ((kO:Int).toNat) (.agg [.int .i64 ((qp.cell 0).toInt),.int .i64 ((qp.cell 1).toInt),.list aa ((qp.cell 2).toList)])).set ((nF:Int).toNat) (.agg [.int .i64 ((Kv.cell 0).toInt),.int .i64 ((Kv.cell 1).toInt),.list aa ((Kv.cell 2).toList)]))
     else none
     else none
    else none
    else none))
noncomputable def xb (C:af) (a:Int):(Int × Int × (List V))→Option ((Int × Int × (List V)) ⊕ (Int × Int × Bool × (List V))):=un fun i=>un fun j aj=>A9 C a i j aj (fun y=>some (.inl y)) (fun r=>some (.inr r))
noncomputable def SI (C:af):cw:=fun β n ds k=>
 bif Nat.beq n 49 then bS IZ [false,true,false,false] [[1,0,3,0,4]] (@A5 C) ds k else
 bif Nat.beq n 81 then bS I0 [false,false,true,false] [[1,2,0,0,4]] (@w6 C) ds k else
 bif Nat.beq n 209 then bS I1 [false,true,false,false] [[1,0,3,0,4]] (@A7 C) ds k else
 bif Nat.beq n 241 then bS I4 [false,false,true,false] [[1,2,0,0,4]] (@w8 C) ds k else
 bif Nat.beq n 210 then bS I5 [false,true,true,true] [[1,0,0,0,0]] (@A9 C) ds k else
 none
abbrev Ba (C:af) (b:cp):Prop:=cq Tryz.prog ay C (SI C) 134 (cH Tryz.prog (ay.aX 134)) (ay.sin 134).aY.length b
theorem aeU (C:af):Ba C (.loop (ax [1,1,1,0,0,0] oX)):=
 bX IZ [false,true,false,false] [[1,0,3,0,4]] (@A5 C) (by kernel_rfl) (bn (bs:=[]) (by kernel_rfl) az) (fun ds=>by kernel_rfl) (fun i x=>by kernel_rfl) (fun i x β k=>by kernel_rfl) (fun β ds k=>by kernel_rfl)
theorem aeV (C:af):Ba C (.loop (ax [1,1,1,1,0,0,0] oX)):=
 bX I0 [false,false,true,false] [[1,2,0,0,4]] (@w6 C) (by kernel_rfl) (bn (bs:=[]) (by kernel_rfl) az) (fun ds=>by kernel_rfl) (fun i x=>by kernel_rfl) (fun i x β k=>by kernel_rfl) (fun β ds k=>by kernel_rfl)
theorem aeW (C:af):Ba C (.loop (ax [1,1,1,1,1,1,1,1,1,0,0,0,0,0,0,0] oX)):=
 bX I1 [false,true,false,false] [[1,0,3,0,4]] (@A7 C) (by kernel_rfl) (bn (bs:=[]) (by kernel_rfl) az) (fun ds=>by kernel_rfl) (fun i x=>by kernel_rfl) (fun i x β k=>by kernel_rfl) (fun β ds k=>by kernel_rfl)
theorem aeX (C:af):Ba C (.loop (ax [1,1,1,1,1,1,1,1,1,0,0,0,0,1,0,0,0] oX)):=
 bX I4 [false,false,true,false] [[1,2,0,0,4]] (@w8 C) (by kernel_rfl) (bn (bs:=[]) (by kernel_rfl) az) (fun ds=>by kernel_rfl) (fun i x=>by kernel_rfl) (fun i x β k=>by kernel_rfl) (fun β ds k=>by kernel_rfl)
theorem aeY (C:af):Ba C (.loop (ax [1,1,1,1,1,1,1,1,1,0,0,0] oX)):=
 bX I5 [false,true,true,true] [[1,0,0,0,0]] (@A9 C) (by kernel_rfl) (bn (bs:=[.loop (ax [1,1,1,1,1,1,1,1,1,0,0,0,0,0,0,0] oX),.loop (ax [1,1,1,1,1,1,1,1,1,0,0,0,0,1,0,0,0] oX)]) (by kernel_rfl) (bD (aeW C) (bD (aeX C) az))) (fun ds=>by kernel_rfl) (fun i x=>by kernel_rfl) (fun i x β k=>by kernel_rfl) (fun β ds k=>by kernel_rfl)
noncomputable def SJ (C:af) (a b' pivot:Int) (aj:List V):Option (List V):=
 bif (decide (0≤pivot))&&(decide (pivot<(aj.length:Int))) then
  (aj[(pivot:Int).toNat]?).bind fun x1=>
  bif (decide (0≤a))&&(decide (a<(aj.length:Int))) then
  (aj[(a:Int).toNat]?).bind fun x2=>
  bif (decide (0≤a))&&(decide (a<(aj.length:Int))) then
   (aj[(a:Int).toNat]?).bind fun x3=>
   bif (decide (0≤pivot))&&(decide (pivot<((aj.set ((a:Int).toNat) (.agg [.int .i64 ((x1.cell 0).toInt),.int .i64 ((x1.cell 1).toInt),.list aa ((x1.cell 2).toList)])).length:Int))) then
   ((aj.set ((a:Int).toNat) (.agg [.int .i64 ((x1.cell 0).toInt),.int .i64 ((x1.cell 1).toInt),.list aa ((x1.cell 2).toList)]))[(pivot:Int).toNat]?).bind fun x4=>
   (Loop (A6 C a (IntKind.wrap .i64 (b'-1)) ((aj.set ((a:Int).toNat) (.agg [.int .i64 ((x1.cell 0).toInt),.int .i64 ((x1.cell 1).toInt),.list aa ((x1.cell 2).toList)])).set ((pivot:Int).toNat) (.agg [.int .i64 ((x2.cell 0).toInt),.int .i64 ((x2.cell 1).toInt),.list aa ((x2.cell 2).toList)]))) (IntKind.wrap .i64 (a+1))).bind (un fun (eE:Int) (p9:Bool)=>
    (Loop (w7 C a eE ((aj.set ((a:Int).toNat) (.agg [.int .i64 ((x1.cell 0).toInt),.int .i64 ((x1.cell 1).toInt),.list aa ((x1.cell 2).toList)])).set ((pivot:Int).toNat) (.agg [.int .i64 ((x2.cell 0).toInt),.int .i64 ((x2.cell 1).toInt),.list aa ((x2.cell 2).toList)]))) (IntKind.wrap .i64 (b'-1))).bind (un fun (dR:Int) (Jw:Bool)=>
     bif decide ((eE:Int)>dR) then
      bif (decide (0≤a))&&(decide (a<(((aj.set ((a:Int).toNat) (.agg [.int .i64 ((x1.cell 0).toInt),.int .i64 ((x1.cell 1).toInt),.list aa ((x1.cell 2).toList)])).set ((pivot:Int).toNat) (.agg [.int .i64 ((x2.cell 0).toInt),.int .i64 ((x2.cell 1).toInt),.list aa ((x2.cell 2).toList)])).length:Int))) then
      (((aj.set ((a:Int).toNat) (.agg [.int .i64 ((x1.cell 0).toInt),.int .i64 ((x1.cell 1).toInt),.list aa ((x1.cell 2).toList)])).set ((pivot:Int).toNat) (.agg [.int .i64 ((x2.cell 0).toInt),.int .i64 ((x2.cell 1).toInt),.list aa ((x2.cell 2).toList)]))[(a:Int).toNat]?).bind fun eQ=>
      bif (decide (0≤dR))&&(decide (dR<(((aj.set ((a:Int).toNat) (.agg [.int .i64 ((x1.cell 0).toInt),.int .i64 ((x1.cell 1).toInt),.list aa ((x1.cell 2).toList)])).set ((pivot:Int).toNat) (.agg [.int .i64 ((x2.cell 0).toInt),.int .i64 ((x2.cell 1).toInt),.list aa ((x2.cell 2).toList)])).length:Int))) then
       (((aj.set ((a:Int).toNat) (.agg [.int .i64 ((x1.cell 0).toInt),.int .i64 ((x1.cell 1).toInt),.list aa ((x1.cell 2).toList)])).set ((pivot:Int).toNat) (.agg [.int .i64 ((x2.cell 0).toInt),.int .i64 ((x2.cell 1).toInt),.list aa ((x2.cell 2).toList)]))[(dR:Int).toNat]?).bind fun fu=>
       bif (decide (0≤dR))&&(decide (dR<(((aj.set ((a:Int).toNat) (.agg [.int .i64 ((x1.cell 0).toInt),.int .i64 ((x1.cell 1).toInt),.list aa ((x1.cell 2).toList)])).set ((pivot:Int).toNat) (.agg [.int .i64 ((x2.cell 0).toInt),.int .i64 ((x2.cell 1).toInt),.list aa ((x2.cell 2).toList)])).length:Int))) then
       (((aj.set ((a:Int).toNat) (.agg [.int .i64 ((x1.cell 0).toInt),.int .i64 ((x1.cell 1).toInt),.list aa ((x1.cell 2).toList)])).set ((pivot:Int).toNat) (.agg [.int .i64 ((x2.cell 0).toInt),.int .i64 ((x2.cell 1).toInt),.list aa ((x2.cell 2).toList)]))[(dR:Int).toNat]?).bind fun tT=>
       bif (decide (0≤a))&&(decide (a<((((aj.set ((a:Int).toNat) (.agg [.int .i64 ((x1.cell 0).toInt),.int .i64 ((x1.cell 1).toInt),.list aa ((x1.cell 2).toList)])).set ((pivot:Int).toNat) (.agg [.int .i64 ((x2.cell 0).toInt),.int .i64 ((x2.cell 1).toInt),.list aa ((x2.cell 2).toList)])).set ((dR:Int).toNat) (.agg [.int .i64 ((eQ.cell 0).toInt),.int .i64 ((eQ.cell 1).toInt),.list aa ((eQ.cell 2).toList)])).length:Int))) then
        ((((aj.set ((a:Int).toNat) (.agg [.int .i64 ((x1.cell 0).toInt),.int .i64 ((x1.cell 1).toInt),.list aa ((x1.cell 2).toList)])).set ((pivot:Int).toNat) (.agg [.int .i64 ((x2.cell 0).toInt),.int .i64 ((x2.cell 1).toInt),.list aa ((x2.cell 2).toList)])).set ((dR:Int).toNat) (.agg [.int .i64 ((eQ.cell 0).toInt),.int .i64 ((eQ.cell 1).toInt),.list aa ((eQ.cell 2).toList)]))[(a:Int).toNat]?).bind fun JR=>
        some [.int .i64 dR,.bool true,.list aa ((((aj.set ((a:Int).toNat) (.agg [.int .i64 ((x1.cell 0).toInt),.int .i64 ((x1.cell 1).toInt),.list aa ((x1.cell 2).toList)])).set ((pivot:Int).toNat) (.agg [.int .i64 ((x2.cell 0).toInt),.int .i64 ((x2.cell 1).toInt),.list aa ((x2.cell 2).toList)])).set ((dR:Int).toNat) (.agg [.int .i64 ((eQ.cell 0).toInt),.int .i64 ((eQ.cell 1).toInt),.list aa ((eQ.cell 2).toList)])).set ((a:Int).toNat) (.agg [.int .i64 ((fu.cell 0).toInt),.int .i64 ((fu.cell 1).toInt),.list aa ((fu.cell 2).toList)]))]
       else none
       else none
      else none
      else none
     else
      bif (decide (0≤dR))&&(decide (dR<(((aj.set ((a:Int).toNat) (.agg [.int .i64 ((x1.cell 0).toInt),.int .i64 ((x1.cell 1).toInt),.list aa ((x1.cell 2).toList)])).set ((pivot:Int).toNat) (.agg [.int .i64 ((x2.cell 0).toInt),.int .i64 ((x2.cell 1).toInt),.list aa ((x2.cell 2).toList)])).length:Int))) then
      (((aj.set ((a:Int).toNat) (.agg [.int .i64 ((x1.cell 0).toInt),.int .i64 ((x1.cell 1).toInt),.list aa ((x1.cell 2).toList)])).set ((pivot:Int).toNat) (.agg [.int .i64 ((x2.cell 0).toInt),.int .i64 ((x2.cell 1).toInt),.list aa ((x2.cell 2).toList)]))[(dR:Int).toNat]?).bind fun mA=>
      bif (decide (0≤eE))&&(decide (eE<(((aj.set ((a:Int).toNat) (.agg [.int .i64 ((x1.cell 0).toInt),.int .i64 ((x1.cell 1).toInt),.list aa ((x1.cell 2).toList)])).set ((pivot:Int).toNat) (.agg [.int .i64 ((x2.cell 0).toInt),.int .i64 ((x2.cell 1).toInt),.list aa ((x2.cell 2).toList)])).length:Int))) then
       (((aj.set ((a:Int).toNat) (.agg [.int .i64 ((x1.cell 0).toInt),.int .i64 ((x1.cell 1).toInt),.list aa ((x1.cell 2).toList)])).set ((pivot:Int).toNat) (.agg [.int .i64 ((x2.cell 0).toInt),.int .i64 ((x2.cell 1).toInt),.list aa ((x2.cell 2).toList)]))[(eE:Int).toNat]?).bind fun qb=>
       bif (decide (0≤eE))&&(decide (eE<(((aj.set ((a:Int).toNat) (.agg [.int .i64 ((x1.cell 0).toInt),.int .i64 ((x1.cell 1).toInt),.list aa ((x1.cell 2).toList)])).set ((pivot:Int).toNat) (.agg [.int .i64 ((x2.cell 0).toInt),.int .i64 ((x2.cell 1).toInt),.list aa ((x2.cell 2).toList)])).length:Int))) then
       (((aj.set ((a:Int).toNat) (.agg [.int .i64 ((x1.cell 0).toInt),.int .i64 ((x1.cell 1).toInt),.list aa ((x1.cell 2).toList)])).set ((pivot:Int).toNat) (.agg [.int .i64 ((x2.cell 0).toInt),.int .i64 ((x2.cell 1).toInt),.list aa ((x2.cell 2).toList)]))[(eE:Int).toNat]?).bind fun wE=>
       bif (decide (0≤dR))&&(decide (dR<((((aj.set ((a:Int).toNat) (.agg [.int .i64 ((x1.cell 0).toInt),.int .i64 ((x1.cell 1).toInt),.list aa ((x1.cell 2).toList)])).set ((pivot:Int).toNat) (.agg [.int .i64 ((x2.cell 0).toInt),.int .i64 ((x2.cell 1).toInt),.list aa ((x2.cell 2).toList)])).set ((eE:Int).toNat) (.agg [.int .i64 ((mA.cell 0).toInt),.int .i64 ((mA.cell 1).toInt),.list aa ((mA.cell 2).toList)])).length:Int))) then
        ((((aj.set ((a:Int).toNat) (.agg [.int .i64 ((x1.cell 0).toInt),.int .i64 ((x1.cell 1).toInt),.list aa ((x1.cell 2).toList)])).set ((pivot:Int).toNat) (.agg [.int .i64 ((x2.cell 0).toInt),.int .i64 ((x2.cell 1).toInt),.list aa ((x2.cell 2).toList)])).set ((eE:Int).toNat) (.agg [.int .i64 ((mA.cell 0).toInt),.int .i64 ((mA.cell 1).toInt),.list aa ((mA.cell 2).toList)]))[(dR:Int).toNat]?).bind fun QN=>
        (Loop (xb C a) (IntKind.wrap .i64 (eE+1),IntKind.wrap .i64 (dR-1),(((aj.set ((a:Int).toNat) (.agg [.int .i64 ((x1.cell 0).toInt),.int .i64 ((x1.cell 1).toInt),.list aa ((x1.cell 2).toList)])).set ((pivot:Int).toNat) (.agg [.int .i64 ((x2.cell 0).toInt),.int .i64 ((x2.cell 1).toInt),.list aa ((x2.cell 2).toList)])).set ((eE:Int).toNat) (.agg [.int .i64 ((mA.cell 0).toInt),.int .i64 ((mA.cell 1).toInt),.list aa ((mA.cell 2).toList)])).set ((dR:Int).toNat) (.agg [.int .i64 ((qb.cell 0).toInt),.int .i64 ((qb.cell 1).toInt),.list aa ((qb.cell 2).toList)]))).bind (un fun (ZT:Int)=>un fun (oY:Int)=>un fun (Pw:Bool) (iV:List V)=>
         bif (decide (0≤a))&&(decide (a<(iV.length:Int))) then
         (iV[(a:Int).toNat]?).bind fun lK=>
         bif (decide (0≤oY))&&(decide (oY<(iV.length:Int))) then
          (iV[(oY:Int).toNat]?).bind fun uk=>
          bif (decide (0≤oY))&&(decide (oY<(iV.length:Int))) then
          (iV[(oY:Int).toNat]?).bind fun x43=>
          bif (decide (0≤a))&&(decide (a<((iV.set ((oY:Int).toNat) (.agg [.int .i64 ((lK.cell 0).toInt),.int .i64 ((lK.cell 1).toInt),.list aa ((lK.cell 2).toList)])).length:Int))) then
           ((iV.set ((oY:Int).toNat) (.agg [.int .i64 ((lK.cell 0).toInt),.int .i64 ((lK.cell 1).toInt),.list aa ((lK.cell 2).toList)]))[(a:Int).toNat]?).bind fun x44=>
           some [.int .i64 oY,.bool false,.list aa ((iV.set ((oY:Int).toNat) (.agg [.int .i64 ((lK.cell 0).toInt),.int .i64 ((lK.cell 1).toInt),.list aa ((lK.cell 2).toList)])).set ((a:Int).toNat) (.agg [.int .i64 ((uk.cell 0).toInt),.int .i64 ((uk.cell 1).toInt),.list aa ((uk.cell 2).toList)]))]
          else none
          else none
         else none
         else none)
       else none
       else none
      else none
      else none))
   else none
  else none
  else none
 else none
theorem aeZ {a b' pivot:Int} {aj:List V} {r:Option (List V)} (h:SJ CC a b' pivot aj=r):CC mr [.int .i64 a,.int .i64 b',.int .i64 pivot,.list aa aj]=r:=
 bd (key:=134) (L:=SI CC) (bs:=[.loop (ax [1,1,1,0,0,0] oX),.loop (ax [1,1,1,1,0,0,0] oX),.loop (ax [1,1,1,1,1,1,1,1,1,0,0,0] oX)]) (by kernel_rfl) (bD (aeU CC) (bD (aeV CC) (bD (aeY CC) az))) (ba (by kernel_rfl) h)
end Go.AM
