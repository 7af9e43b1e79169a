/-
  Functions of the program, lifted to plain data.
-/
import Derived.Sort.AssemblyPlain
import Derived.Test.YtppefogdkedaiaaGreatDoorP4
set_option linter.unusedVariables false
set_option linter.unusedSimpArgs false
set_option maxRecDepth 100000
namespace Go.AM
open Go.Proofs
noncomputable def VP (C:ae) (j:Int) (dk:Bool) (av aT:List V):Option (List V):=
 bif !dk then
  bif (decide (0≤j))&&(decide (j<(aT.length:Int))) then
  (aT[(j:Int).toNat]?).bind fun x1=>
  (da Tryz.prog aD aT [((j:Int).toNat,0)]).bind fun x2=>
  (C vD [.list aI x2.toList,.int .i64 j,.list aI av]).bind fun r3=>
  some [.bool dk,.list aD aT,.list aI ((V.nth r3 0).toList)]
  else none
 else
  (C yD [.list aI av,.int .i64 j]).bind fun r4=>
  bif !((V.nth r4 0).toBool) then
  bif (decide (0≤j))&&(decide (j<(aT.length:Int))) then
   (aT[(j:Int).toNat]?).bind fun x5=>
   (da Tryz.prog aD aT [((j:Int).toNat,0)]).bind fun x6=>
   (C vD [.list aI x6.toList,.int .i64 j,.list aI av]).bind fun r7=>
   some [.bool dk,.list aD aT,.list aI ((V.nth r7 0).toList)]
  else none
  else
  some [.bool dk,.list aD aT,.list aI av]
theorem aht {j:Int} {dk:Bool} {av aT:List V} {r:Option (List V)} (h:VP CC j dk av aT=r):CC qj [.int .i64 j,.bool dk,.list aI av,.list aD aT]=r:=
 aY (key:=57) (L:=b6) (bs:=[]) (by kernel_rfl) ax (aX (by kernel_rfl) h)
noncomputable abbrev VQ:Code:=cg Tryz.prog (au.aP 61)
noncomputable def CZ (C:ae) (i:Int) (dk:List UInt8) (ka:Int) (av:List V) (k':Int) (zg:List V) {β:Type} (kn:(Int × (List V))→Option β) (kr:(Int × Bool × (List V))→Option β):Option β:=
 bif decide ((k':Int)≤ka) then
  bif (decide (0≤i))&&(decide (i<(av.length:Int))) then
  (av[(i:Int).toNat]?).bind fun x2=>
  (da Tryz.prog aD av [((i:Int).toNat,0)]).bind fun x3=>
  bif (decide (0≤k'))&&(decide (k'<(x3.toList.length:Int))) then
   (da Tryz.prog aD av [((i:Int).toNat,0)]).bind fun x4=>
   (x4.toList[(k':Int).toNat]?).bind fun x5=>
   bif (decide (0≤k'))&&(decide (k'<(zg.length:Int))) then
   (zg[(k':Int).toNat]?).bind fun x6=>
   kn (IntKind.wrap .i64 (k'+1),zg.set ((k':Int).toNat) (.int .u64 (IntKind.wrap .u64 (BitVec.ofInt (IntKind.bits .u64) 18446744073709551615 ^^^ BitVec.ofInt (IntKind.bits .u64) x5.toInt).toNat)))
   else none
  else none
  else none
 else
  kr (k',decide ((k':Int)≤ka),zg)
noncomputable def C2 (C:ae) (i:Int) (dk:List UInt8) (ka:Int) (av:List V):(Int × (List V))→Option ((Int × (List V)) ⊕ (Int × Bool × (List V))):=un fun k' zg=>CZ C i dk ka av k' zg (fun y=>some (.inl y)) (fun r=>some (.inr r))
noncomputable def VR (C:ae):bZ:=fun β n ds k=>
 bif Nat.beq n 33 then bK MM [false,true,false,false,false,true] [[1,0,0,3,4,5,0]] (@CZ C) ds k else
 none
abbrev ahu (C:ae) (b:bX):Prop:=bY Tryz.prog au C (VR C) 61 (cj Tryz.prog (au.aP 61)) (au.sin 61).ba.length b
theorem ahv (C:ae):ahu C (.loop (aw [1,0,1,0,0] VQ)):=
 bN MM [false,true,false,false,false,true] [[1,0,0,3,4,5,0]] (@CZ C) (by kernel_rfl) (a8 (bs:=[]) (by kernel_rfl) ax) (fun ds=>by kernel_rfl) (fun i x=>by kernel_rfl) (fun i x β k=>by kernel_rfl) (fun β ds k=>by kernel_rfl)
noncomputable def VT (C:ae) (i:Int) (dk:List UInt8) (ka:Int) (av:List V):Option (List V):=
 (C pg [.str dk]).bind fun r1=>
 (Loop (C2 C i dk ka av) (Int.fdiv i (2^(min (6:Int).toNat (IntKind.bits .i64))),(V.nth r1 0).toList)).bind (un fun (k_7:Int)=>un fun (yY:Bool) (si:List V)=>
  bif (decide (0≤(Int.fdiv i (2^(min (6:Int).toNat (IntKind.bits .i64))))))&&(decide ((Int.fdiv i (2^(min (6:Int).toNat (IntKind.bits .i64))))<(si.length:Int))) then
   (si[(Int.fdiv i (2^(min (6:Int).toNat (IntKind.bits .i64))):Int).toNat]?).bind fun im=>
   bif decide (0≤(IntKind.wrap .i64 ((BitVec.ofInt (IntKind.bits .i64) i&&&BitVec.ofInt (IntKind.bits .i64) 63).toNat))) then
   bif (decide (0≤(Int.fdiv i (2^(min (6:Int).toNat (IntKind.bits .i64))))))&&(decide ((Int.fdiv i (2^(min (6:Int).toNat (IntKind.bits .i64))))<(si.length:Int))) then
    (si[(Int.fdiv i (2^(min (6:Int).toNat (IntKind.bits .i64))):Int).toNat]?).bind fun et=>
    bif (decide (0≤ka))&&(decide (ka<((si.set ((Int.fdiv i (2^(min (6:Int).toNat (IntKind.bits .i64))):Int).toNat) (.int .u64 (IntKind.wrap .u64 ((BitVec.ofInt (IntKind.bits .u64) im.toInt&&&BitVec.ofInt (IntKind.bits .u64) (IntKind.wrap .u64 (18446744073709551615*2^(min (IntKind.wrap .i64 ((BitVec.ofInt (IntKind.bits .i64) i&&&BitVec.ofInt (IntKind.bits .i64) 63).toNat)).toNat (IntKind.bits .u64))))).toNat)))).length:Int))) then
    ((si.set ((Int.fdiv i (2^(min (6:Int).toNat (IntKind.bits .i64))):Int).toNat) (.int .u64 (IntKind.wrap .u64 ((BitVec.ofInt (IntKind.bits .u64) im.toInt&&&BitVec.ofInt (IntKind.bits .u64) (IntKind.wrap .u64 (18446744073709551615*2^(min (IntKind.wrap .i64 ((BitVec.ofInt (IntKind.bits .i64) i&&&BitVec.ofInt (IntKind.bits .i64) 63).toNat)).toNat (IntKind.bits .u64))))).toNat))))[(ka:Int).toNat]?).bind fun sg=>
    bif decide (0≤(IntKind.wrap .i64 (63-(IntKind.wrap .i64 ((BitVec.ofInt (IntKind.bits .i64) (dk.length:Int)&&&BitVec.ofInt (IntKind.bits .i64) 63).toNat))))) then
     bif (decide (0≤ka))&&(decide (ka<((si.set ((Int.fdiv i (2^(min (6:Int).toNat (IntKind.bits .i64))):Int).toNat) (.int .u64 (IntKind.wrap .u64 ((BitVec.ofInt (IntKind.bits .u64) im.toInt&&&BitVec.ofInt (IntKind.bits .u64) (IntKind.wrap .u64 (18446744073709551615*2^(min (IntKind.wrap .i64 ((BitVec.ofInt (IntKind.bits .i64) i&&&BitVec.ofInt (IntKind.bits .i64) 63).toNat)).toNat (IntKind.bits .u64))))).toNat)))).length:Int))) then
     ((si.set ((Int.fdiv i (2^(min (6:Int).toNat (IntKind.bits .i64))):Int).toNat) (.int .u64 (IntKind.wrap .u64 ((BitVec.ofInt (IntKind.bits .u64) im.toInt&&&BitVec.ofInt (IntKind.bits .u64) (IntKind.wrap .u64 (18446744073709551615*2^(min (IntKind.wrap .i64 ((BitVec.ofInt (IntKind.bits .i64) i&&&BitVec.ofInt (IntKind.bits .i64) 63).toNat)).toNat (IntKind.bits .u64))))).toNat))))[(ka:Int).toNat]?).bind fun iN=>
     bif (decide (0≤i))&&(decide (i<(av.length:Int))) then
      (av[(i:Int).toNat]?).bind fun mw=>
      some [.str dk,.int .i64 ka,.list aD (av.set ((i:Int).toNat) (.list aI ((si.set ((Int.fdiv i (2^(min (6:Int).toNat (IntKind.bits .i64))):Int).toNat) (.int .u64 (IntKind.wrap .u64 ((BitVec.ofInt (IntKind.bits .u64) im.toInt&&&BitVec.ofInt (IntKind.bits .u64) (IntKind.wrap .u64 (18446744073709551615*2^(min (IntKind.wrap .i64 ((BitVec.ofInt (IntKind.bits .i64) i&&&BitVec.ofInt (IntKind.bits .i64) 63).toNat)).toNat (IntKind.bits .u64))))).toNat)))).set ((ka:Int).toNat) (.int .u64 (IntKind.wrap .u64 ((BitVec.ofInt (IntKind.bits .u64) sg.toInt&&&BitVec.ofInt (IntKind.bits .u64) (Int.fdiv 18446744073709551615 (2^(min (IntKind.wrap .i64 (63-(IntKind.wrap .i64 ((BitVec.ofInt (IntKind.bits .i64) (dk.length:Int)&&&BitVec.ofInt (IntKind.bits .i64) 63).toNat)))).toNat (IntKind.bits .u64))))).toNat))))))]
     else none
     else none
    else none
    else none
   else none
   else none
  else none)
theorem ahw {i:Int} {dk:List UInt8} {ka:Int} {av:List V} {r:Option (List V)} (h:VT CC i dk ka av=r):CC qn [.int .i64 i,.str dk,.int .i64 ka,.list aD av]=r:=
 aY (key:=61) (L:=VR CC) (bs:=[.loop (aw [1,0,1,0,0] VQ)]) (by kernel_rfl) (bq (ahv CC) ax) (aX (by kernel_rfl) h)
def mW (w:List UInt8):Nat:=w.length/64+1
abbrev uV (w:List UInt8) (S:Nat):V:= .list aI (bh (mW w) S)
abbrev oV (w:List UInt8) (R:Nat→Option Nat):V:= .list aD (Rows (mW w) (w.length+1) R)
theorem nh {w:List UInt8} (h:w.length≤2048):mW w≤100:=by unfold mW;omega
theorem pz {w:List UInt8} {i:Nat} (h:i≤w.length):i/64<mW w:=by unfold mW;omega
theorem C3 {w:List UInt8}:w.length<64*mW w:=by unfold mW;omega
theorem tP {w:List UInt8} (h:w.length≤2048):CC pg [.str w]=some [uV w 0]:=agD h
def base (w:List UInt8) (o l:Int) (i:Nat):Nat:=if o=2 then 2^i else if o=3∧i<w.length∧dU w i=l then 2^(i+1) else 0
theorem ahx {w:List UInt8} {o l:Int} {ks:List V} {R:Nat→Option Nat} {i:Nat} (hw:w.length≤2048) (hl: ∀i,i<w.length→0≤dU w i) (hi:i≤w.length):
  CC qg [.int .i64 (i:Int),.str w,.int .i64 o,.int .i64 l,.list aa ks,oV w R]=some [.str w,.int .i64 o,.int .i64 l,.list aa ks,oV w (upd R i (base w o l i))]:=by
 refine ahk ?_
 unfold VG
 rw[tP hw]
 simp only[Option.bind_some,V.aC,V.bS,ct,az,Int.toNat_natCast,kV,j9 (show i<w.length+1 by omega),vU]
 rw[ag (by omega),ag (by omega)]
 unfold H7 base
 by_cases U:o=2
 ·have e:(o==2)=true:=by simp[U]
  rw[e,ag U]
  simp only[cond_true,kV,ct,az,Int.toNat_natCast,j9 (show i<w.length+1 by omega),Option.bind_some]
  rw[ag (by omega),ag (by omega),Vb (pz hi) (by omega) (by omega) HU]
  simp only[Option.bind_some,V.aC,V.bS,U9,Nat.zero_or]
 ·have e:(o==2)=false:=by simp[U]
  rw[e,ah U]
  simp only[cond_false,dD,az]
  by_cases h3:o=3
  ·rw[ag h3]
   by_cases h4:i<w.length
   ·rw[ag (by omega),←az,HR h4]
    simp only[Option.bind_some,V.toInt_int]
    rw[NY (hl i h4),wrap64 (by have:=hl i h4;omega) (by have:= @NZ w i;omega)]
    by_cases h5:dU w i=l
    ·rw[ag h5,ag ⟨h3,h4,h5⟩]
     simp only[kV,ct,az,Int.toNat_natCast,j9 (show i<w.length+1 by omega),Option.bind_some]
     rw[ag (by omega),ag (by omega),wrap64 (by omega) (by omega)]
     have:=Vb (m:=mW w) (N:=w.length+1) (i:=i) (j:=i+1) (S:=0) (R:=upd R i 0) (pz (by omega)) (by omega) (by omega) HU
     rw[Int.natCast_add] at this
     refine (congrArg (fun o=>Option.bind o _) this).trans ?_
     simp only[Option.bind_some,V.aC,V.bS,U9,Nat.zero_or]
    ·rw[ah h5,ah (fun h=>h5 h.2.2)]
   ·rw[ah (by omega),ah (fun h=>h4 h.2.1)]
  ·rw[ah h3,ah (fun h=>h3 h.1)]
theorem ahy {w:List UInt8} {R:Nat→Option Nat} {i S M:Nat} (hw:w.length≤2048) (hi:i≤w.length) (hR:R i=some S) (hS: ∀j,j<i→S.testBit j=false):
  CC qh [.int .i64 (i:Int),uV w M,oV w R]=some [oV w R,uV w (M|||S)]:=by
 refine ahr ?_
 unfold VN
 simp only[ct,az,Int.toNat_natCast,kV,j9 (show i<w.length+1 by omega),qv (show i<w.length+1 by omega) hR,Option.bind_some,V.bS]
 rw[ag (by omega),ag (by omega),N4 (nh hw) (pz hi) hS]
 simp only[Option.bind_some,V.aC,V.bS]
theorem ahz {i a:Nat}:CC qk [.int .i64 (i:Int),.int .i64 (a:Int)]=some [.int .i64 ((min i a:Nat):Int)]:=by
 refine ahl ?_
 unfold VH
 congr 3
 split<;>omega
theorem VU {w:List UInt8} {R:Nat→Option Nat} {j O:Nat} (hw:w.length≤2048) (hj:j≤w.length) {S:Nat} (hR:O.testBit j=false→R j=some S) (hS: ∀t,t<j→S.testBit t=false):
  CC ql [.int .i64 (j:Int),uV w O,oV w R]=some [oV w R,uV w (if O.testBit j=true then O else O|||S)]:=by
 refine ahm ?_
 unfold VI
 rw[N3 (pz hj) (by omega)]
 simp only[Option.bind_some,V.aC,V.cQ,gd]
 cases h:O.testBit j with
 | true=>simp
 | false=>
  have hR:=hR h
  simp only[cond_false,ct,az,Int.toNat_natCast,kV,j9 (show j<w.length+1 by omega),qv (show j<w.length+1 by omega) hR,Option.bind_some,V.bS]
  rw[ag (by omega),ag (by omega),N4 (nh hw) (pz hj) hS]
  simp
theorem ahA {w:List UInt8} {R:Nat→Option Nat} {j O S:Nat} {b:Bool} (hw:w.length≤2048) (hj:j≤w.length) (hR:R j=some S) (hS: ∀t,t<j→S.testBit t=false):
  CC qj [.int .i64 (j:Int),.bool b,uV w O,oV w R]=some [.bool b,oV w R,uV w (if b=true∧O.testBit j=true then O else O|||S)]:=by
 refine aht ?_
 unfold VP
 rw[N3 (pz hj) (by omega)]
 simp only[Option.bind_some,V.aC,V.cQ,gd,ct,az,Int.toNat_natCast,kV,j9 (show j<w.length+1 by omega),qv (show j<w.length+1 by omega) hR,V.bS,N4 (nh hw) (pz hj) hS]
 rw[ag (by omega),ag (by omega)]
 cases b<;>cases h:O.testBit j<;>simp
theorem Oe {m N i:Nat} {R:Nat→Option Nat} {x:V} (h:i<N):((Rows m N R).set i x)[i]? =some x:=by
 rw[Al];simp[kV,h]
theorem ahB {m N i:Nat} {R:Nat→Option Nat} {l:List V} (h:i<N):da Tryz.prog aD ((Rows m N R).set i (.list aI l)) [(i,0)]=some (.list aI l):=by
 simp only[da,Oe h,Option.bind_some,HV]
 rfl
theorem ahC {m N i:Nat} {R:Nat→Option Nat} {l l':List V} (h:i<N):setRow Tryz.prog l' aD ((Rows m N R).set i (.list aI l)) [(i,0)]=(Rows m N R).set i (.list aI l'):=by
 simp only[setRow,Oe h,HV]
 simp only[List.getElem?_cons_zero,List.set_cons_zero,cA,N6,cond_false,V.aC,List.set_set]
theorem ahD {m N i S:Nat} {R:Nat→Option Nat} (hR:R i=some S):Rows m N R=(Rows m N R).set i (.list aI (bh m S)):=by
 rw[vU]
 congr 1
 funext j
 unfold upd
 split
 ·rename_i h;rw[h,hR]
 ·rfl
def ni (o:Int) (a b:Nat):Nat:=if o=4 then a|||b else a&&&b
theorem ahE {o:Int} {a b n:Nat} (ha:a<2^n) (hb:b<2^n):ni o a b<2^n:=by
 unfold ni;split
 ·exact EP ha hb
 ·exact oJ Nat.and_le_left ha
theorem Of {o:Int} {a b j:Nat}:(ni o a b).testBit j=if o=4 then (a.testBit j||b.testBit j) else (a.testBit j&&b.testBit j):=by
 unfold ni;split
 ·rw[sO]
 ·rw[xf]
theorem ahF {w:List UInt8} {R R2:Nat→Option Nat} {i S T:Nat} {o l:Int} {ks:List V} (hw:w.length≤2048) (hi:i≤w.length) (hR:R i=some S) (hT:R2 i=some T):
  CC qm [.int .i64 (i:Int),.int .i64 o,.int .i64 l,.list aa ks,oV w R,oV w R2]=some [.int .i64 o,.int .i64 l,.list aa ks,oV w (upd R i (ni o S T)),oV w R2]:=by
 refine ahq ?_
 unfold VM
 have hN:i<w.length+1:=by omega
 have hm:=nh hw
 simp only[ct,az,Int.toNat_natCast,kV,j9 hN,qv hN hR,Option.bind_some,V.bS,mr]
 rw[ag (by omega),ag (by omega)]
 let g:Nat→Nat→Nat:=fun b k=>if k<b then ni o (wd S k) (wd T k) else wd S k
 have hg: ∀b k,g b k<2^64:=fun b k=>by
  show (if k<b then _ else _)<_
  split
  ·exact ahE gO gO
  ·exact gO
 have go: ∀d b,b+d=mW w→Loop (CY CC (i:Int) (mW w:Int) o l ks (Rows (mW w) (w.length+1) R2)) ((b:Int),(Rows (mW w) (w.length+1) R).set i (.list aI (dw (mW w) (g b))))=some ((mW w:Int),false,(Rows (mW w) (w.length+1) R).set i (.list aI (dw (mW w) (g (mW w))))):=by
  intro d
  induction d with
  | zero=>
   intro b hb
   have hb:b=mW w:=by omega
   subst hb
   refine bj ?_
   simp only[CY,CX,un]
   rw[az,ah (by omega),cl (by omega)]
  | succ d ih=>
   intro b hb
   have zh:b<mW w:=by omega
   have bM:CY CC (i:Int) (mW w:Int) o l ks (Rows (mW w) (w.length+1) R2) ((b:Int),(Rows (mW w) (w.length+1) R).set i (.list aI (dw (mW w) (g b))))=some (.inl (((b+1:Nat):Int),(Rows (mW w) (w.length+1) R).set i (.list aI (dw (mW w) (g (b+1)))))):=by
    simp only[CY,CX,un]
    simp only[ct,az,dD,Int.toNat_natCast,ny,kV,Oe hN,ahB hN,Option.bind_some,V.bS,V.toInt_int,vQ,vR zh,j9 hN,qv hN hT,mr,lH zh,ahC hN]
    have e1:g b b=wd S b:=by simp[g]
    have e2:dw (mW w) (fun j=>if j=b then ni o (wd S b) (wd T b) else g b j)=dw (mW w) (g (b+1)):=by
     refine tH fun k _=> ?_
     show (if k=b then ni o (wd S b) (wd T b) else if k<b then ni o (wd S k) (wd T k) else wd S k)=if k<b+1 then ni o (wd S k) (wd T k) else wd S k
     by_cases h1:k=b
     ·subst h1;rw[ag rfl,ag (by omega)]
     ·rw[ah h1]
      by_cases U:k<b
      ·rw[ag U,ag (by omega)]
      ·rw[ah U,ah (by omega)]
    have t1:(b:Int)<(mW w:Int):=by omega
    have t2:(0:Int)≤(i:Int):=by omega
    have t3:(i:Int)<((w.length+1:Nat):Int):=by omega
    have t4:(0:Int)≤(b:Int):=by omega
    simp only[t1,t2,t3,t4,cU]
    rw[e1,u64_or gO gO,u64_and gO gO,vS,vS,wrap64 (by omega) (by omega)]
    by_cases h4:o=4
    ·rw[ag h4]
     unfold ni at e2
     simp only[h4,cU] at e2
     rw[e2];rfl
    ·rw[ah h4]
     unfold ni at e2
     simp only[h4,fS] at e2
     rw[e2];rfl
   rw[bW bM]
   exact ih (b+1) (by omega)
 have e0:Rows (mW w) (w.length+1) R=(Rows (mW w) (w.length+1) R).set i (.list aI (dw (mW w) (g 0))):=by
  have:dw (mW w) (g 0)=bh (mW w) S:=tH fun k _=>by show (if k<0 then _ else _)=_;rw[ah (by omega)]
  rw[this];exact ahD hR
 have e1:dw (mW w) (g (mW w))=bh (mW w) (ni o S T):=by
  refine HT (fun k _=>hg _ _) fun k hk j hj=> ?_
  show (if k<mW w then _ else _:Nat).testBit j=_
  rw[ag hk,Of,Of,om,om]
  simp[hj]
 have hl:=go (mW w) 0 (by omega)
 rw[←e0,e1,vU] at hl
 refine (congrArg (fun o=>Option.bind o _) hl).trans ?_
 simp[un]
def full:Nat:=2^64-1
theorem Og {j:Nat}:full.testBit j=decide (j<64):=by unfold full;rw[Nat.testBit_two_pow_sub_one]
theorem ahG {A:Nat} (hA:A<2^64):IntKind.wrap .u64 (BitVec.ofInt (IntKind.bits .u64) 18446744073709551615 ^^^ BitVec.ofInt (IntKind.bits .u64) (A:Int)).toNat=((full ^^^ A:Nat):Int):=by
 have e:(18446744073709551615:Int)=((full:Nat):Int):=by unfold full;rfl
 have hf:full<2^64:=by unfold full;omega
 rw[e,BitVec.toNat_xor,yU (n:=IntKind.bits .u64) (A:=full) hf,yU (n:=IntKind.bits .u64) (A:=A) hA]
 exact tD (Nat.xor_lt_two_pow hf hA)
def sj (s:Nat):Nat:=full*2^s %2^64
def C4 (s:Nat):Nat:=full/2^s
theorem ahH {s:Nat}:sj s<2^64:=xe _ (by decide)
theorem ahI {s:Nat}:C4 s<2^64:=oJ (Nat.div_le_self _ _) (by unfold full;omega)
theorem ahJ {s j:Nat} (hj:j<64):(sj s).testBit j=decide (s≤j):=by
 unfold sj
 rw[Nat.testBit_mod_two_pow,lj,Nat.testBit_two_pow_mul,Og]
 by_cases h:s≤j
 ·have U:j-s<64:=by omega
  simp[h,hj,U]
 ·simp[h]
theorem ahK {s j:Nat}:(C4 s).testBit j=decide (j+s<64):=by
 unfold C4
 rw[Nat.testBit_div_two_pow,Og]
theorem ahL {s:Nat} (h:s<64):IntKind.wrap .u64 (18446744073709551615*2^(min s (IntKind.bits .u64)))=((sj s:Nat):Int):=by
 have e:min s (IntKind.bits .u64)=s:=Nat.min_eq_left (by show s≤64;omega)
 rw[e,wrap_u64]
 unfold sj full
 rw[Int.natCast_emod,Int.natCast_mul,Int.natCast_pow]
 rfl
theorem ahM {s:Nat} (h:s<64):Int.fdiv 18446744073709551615 (2^(min s (IntKind.bits .u64)))=((C4 s:Nat):Int):=by
 have:=yV (A:=full) (m:=s) h
 exact this
def H9 (i n S:Nat):Nat:=(((2^(n+1)-1) ^^^ (S&&&(2^(n+1)-1))) >>> i) <<< i
theorem VV {i n S j:Nat}:(H9 i n S).testBit j=(decide (i≤j)&&(decide (j≤n)&& !(S.testBit j))):=by
 unfold H9
 rw[Nat.testBit_shiftLeft,Nat.testBit_shiftRight,Nat.testBit_xor,xf,Nat.testBit_two_pow_sub_one]
 by_cases h:i≤j
 ·have e:i+(j-i)=j:=by omega
  have e2:(j<n+1)↔(j≤n):=by omega
  simp only[e,e2,h,ge_iff_le,oM,km]
  by_cases U:j≤n<;>simp[U]
 ·simp[h]
theorem ahN {w:List UInt8} {R:Nat→Option Nat} {i S:Nat} (hw:w.length≤2048) (hi:i≤w.length) (hR:R i=some S):
  CC qn [.int .i64 (i:Int),.str w,.int .i64 ((w.length/64:Nat):Int),oV w R]=some [.str w,.int .i64 ((w.length/64:Nat):Int),oV w (upd R i (H9 i w.length S))]:=by
 refine ahw ?_
 unfold VT
 have hN:i<w.length+1:=by omega
 have hm:=nh hw
 have him:=pz hi
 have jS:w.length/64<mW w:=by unfold mW;omega
 rw[tP hw,vT,Cq (by omega),Cq (by omega)]
 simp only[Option.bind_some,V.aC,V.bS]
 let g:Nat→Nat→Nat:=fun b k=>if i/64≤k∧k<b then full ^^^ wd S k else wd 0 k
 have ta:full<2^64:=by unfold full;omega
 have go: ∀d b,i/64≤b→b+d=mW w→Loop (C2 CC (i:Int) w ((w.length/64:Nat):Int) (Rows (mW w) (w.length+1) R)) ((b:Int),dw (mW w) (g b))=some ((mW w:Int),false,dw (mW w) (g (mW w))):=by
  intro d
  induction d with
  | zero=>
   intro b _ hb
   have hb:b=mW w:=by omega
   subst hb
   refine bj ?_
   simp only[C2,CZ,un]
   rw[az,ah (by unfold mW;omega),cl (by unfold mW;omega)]
  | succ d ih=>
   intro b lB hb
   have zh:b<mW w:=by omega
   have bM:C2 CC (i:Int) w ((w.length/64:Nat):Int) (Rows (mW w) (w.length+1) R) ((b:Int),dw (mW w) (g b))=some (.inl (((b+1:Nat):Int),dw (mW w) (g (b+1)))):=by
    simp only[C2,CZ,un]
    simp only[ct,az,Int.toNat_natCast,kV,Option.bind_some,V.bS,V.toInt_int,vQ,vR zh,j9 hN,qv hN hR,mr,lH zh]
    have t1:(b:Int)<(mW w:Int):=by omega
    have t2:(0:Int)≤(i:Int):=by omega
    have t3:(i:Int)<((w.length+1:Nat):Int):=by omega
    have t4:(0:Int)≤(b:Int):=by omega
    have t5:(b:Int)≤((w.length/64:Nat):Int):=by unfold mW at zh;omega
    simp only[t1,t2,t3,t4,t5,cU]
    rw[ahG gO,vS,wrap64 (by omega) (by omega)]
    have e2:dw (mW w) (fun j=>if j=b then full ^^^ wd S b else g b j)=dw (mW w) (g (b+1)):=by
     refine tH fun k _=> ?_
     show (if k=b then full ^^^ wd S b else if i/64≤k∧k<b then full ^^^ wd S k else wd 0 k)=if i/64≤k∧k<b+1 then full ^^^ wd S k else wd 0 k
     by_cases h1:k=b
     ·subst h1;rw[ag rfl,ag (by omega)]
     ·rw[ah h1]
      by_cases U:i/64≤k∧k<b
      ·rw[ag U,ag (by omega)]
      ·rw[ah U,ah (by omega)]
    rw[e2];rfl
   rw[bW bM]
   exact ih (b+1) (by omega) (by omega)
 have e0:bh (mW w) 0=dw (mW w) (g (i/64)):=tH fun k _=>by
  show _=if i/64≤k∧k<i/64 then _ else wd 0 k
  rw[ah (by omega)]
 have hl:=go (mW w-i/64) (i/64) (by omega) (by omega)
 rw[←e0] at hl
 refine (congrArg (fun o=>Option.bind o _) hl).trans ?_
 generalize hG:g (mW w)=G
 have Oh: ∀k,G k<2^64:=fun k=>by
  rw[←hG];show (if i/64≤k∧k<mW w then _ else _)<_
  split
  ·exact Nat.xor_lt_two_pow ta gO
  ·exact gO
 have s1:i %64<64:=by omega
 have s2:63-w.length %64<64:=by omega
 have w1:IntKind.wrap .i64 (63-((w.length %64:Nat):Int))=((63-w.length %64:Nat):Int):=by rw[wrap64 (by omega) (by omega)];omega
 simp only[Option.bind_some,un,ct,az,Int.toNat_natCast,vQ,vR him,vR jS,V.toInt_int,ahL s1,w1,ahM s2]
 rw[u64_and (Oh _) ahH,vS]
 simp only[vQ,vR jS,Option.bind_some,V.toInt_int,kV,j9 hN]
 have t1:(0:Int)≤((i/64:Nat):Int):=by omega
 have t2:((i/64:Nat):Int)<(mW w:Int):=by omega
 have t3:(0:Int)≤((i %64:Nat):Int):=by omega
 have t4:(0:Int)≤((w.length/64:Nat):Int):=by omega
 have t5:((w.length/64:Nat):Int)<(mW w:Int):=by omega
 have t6:(0:Int)≤((63-w.length %64:Nat):Int):=by omega
 have t7:(0:Int)≤(i:Int):=by omega
 have t8:(i:Int)<((w.length+1:Nat):Int):=by omega
 simp only[t1,t2,t3,t4,t5,t6,t7,t8,cU]
 have hH: ∀k,(if k=i/64 then G (i/64)&&&sj (i %64) else G k)<2^64:=fun k=>by
  split
  ·exact oJ Nat.and_le_left (Oh _)
  ·exact Oh _
 rw[u64_and (hH _) ahI,vS]
 have e9:dw (mW w) (fun j=>if j=w.length/64 then (if w.length/64=i/64 then G (i/64)&&&sj (i %64) else G (w.length/64))&&&C4 (63-w.length %64) else if j=i/64 then G (i/64)&&&sj (i %64) else G j)=bh (mW w) (H9 i w.length S):=by
  refine HT (fun k _=> ?_) fun k hk j hj=> ?_
  ·split
   ·exact oJ Nat.and_le_left (hH _)
   ·exact hH _
  ·have VW:(G k).testBit j=(decide (i/64≤k)&& !(S.testBit (64*k+j))):=by
    rw[←hG]
    show (if i/64≤k∧k<mW w then full ^^^ wd S k else wd 0 k:Nat).testBit j=_
    by_cases h:i/64≤k
    ·rw[ag ⟨h,hk⟩,Nat.testBit_xor,Og,om];simp[hj,h]
    ·rw[ah (fun U=>h U.1),om];simp[h]
   have hK:(if k=i/64 then G (i/64)&&&sj (i %64) else G k:Nat).testBit j=(decide (i≤64*k+j)&& !(S.testBit (64*k+j))):=by
    by_cases h:k=i/64
    ·rw[ag h,←h,xf,VW,ahJ hj]
     have e:(i %64≤j)↔(i≤64*k+j):=by omega
     have e2:i/64≤k:=by omega
     simp only[e,e2,oM,km]
     rw[Bool.and_comm]
    ·rw[ah h,VW]
     have e:(i/64≤k)↔(i≤64*k+j):=by omega
     simp only[e]
   rw[VV]
   by_cases h:k=w.length/64
   ·rw[ag h]
    rw[←h,xf,hK,ahK]
    have e:(j+(63-w.length %64)<64)↔(64*k+j≤w.length):=by omega
    simp only[e]
    cases decide (i≤64*k+j)<;>cases decide (64*k+j≤w.length)<;>simp
   ·rw[ah h,hK]
    have e:64*k+j≤w.length:=by unfold mW at hk;omega
    simp only[e,oM,km]
 rw[e9,vU]
theorem ahO {w:List UInt8} {R R2:Nat→Option Nat} {i S:Nat} {b:Bool} (hw:w.length≤2048) (hi:i≤w.length) (hR:R i=some S) (hS:In w S)
  (U: ∀j,S.testBit j=true→∃T,R2 j=some T∧(∀t,t<j→T.testBit t=false))
  (hb:b=true→∀j' T' j T x,S.testBit j'=true→S.testBit j=true→R2 j'=some T'→R2 j=some T→T'.testBit j=true→T.testBit x=true→T'.testBit x=true):
  ∃O:Nat,CC qi [.int .i64 (i:Int),.str w,.bool b,oV w R,oV w R2]=some [.str w,.bool b,oV w (upd R i O),oV w R2]∧
   ∀x,O.testBit x=true↔∃j T,S.testBit j=true∧R2 j=some T∧T.testBit x=true:=by
 have hN:i<w.length+1:=by omega
 obtain ⟨⟨b',r',u'⟩,hc,aB,gF,O,fv,hO⟩:=ahh (m:=mW w) (F:=S) (nh hw)
  (P:=fun t a=>a.1=b∧a.2.1=Rows (mW w) (w.length+1) R2∧∃O:Nat,a.2.2=bh (mW w) O∧∀x,O.testBit x=true↔∃j T,j<t∧S.testBit j=true∧R2 j=some T∧T.testBit x=true)
  (fun t a ht dj hP=>by
   obtain ⟨b',r',u'⟩:=a
   obtain ⟨rfl,rfl,O,rfl,hO⟩:=hP
   obtain ⟨T,hT,hTl⟩:=U t dj
   refine ⟨(b',Rows (mW w) (w.length+1) R2,bh (mW w) (if b'=true∧O.testBit t=true then O else O|||T)),ahA hw (hS t dj) hT hTl,rfl,rfl,_,rfl,fun x=> ?_⟩
   constructor
   ·intro hx
    split at hx
    ·obtain ⟨j,T',h1,U,h3,h4⟩:=(hO x).1 hx
     exact ⟨j,T',by omega,U,h3,h4⟩
    ·rcases zb.1 hx with hx|hx
     ·obtain ⟨j,T',h1,U,h3,h4⟩:=(hO x).1 hx
      exact ⟨j,T',by omega,U,h3,h4⟩
     ·exact ⟨t,T,by omega,dj,hT,hx⟩
   ·rintro ⟨j,T',h1,hj,h3,h4⟩
    by_cases mO:j=t
    ·subst mO
     rw[hT] at h3
     obtain rfl:=cT h3
     split
     ·rename_i hc
      obtain ⟨j0,T0,g1,g2,g3,g4⟩:=(hO j).1 hc.2
      exact (hO x).2 ⟨j0,T0,g1,g2,g3,hb hc.1 j0 T0 j T x g2 hj g3 hT g4 h4⟩
     ·exact zb.2 (.inr h4)
    ·have:=(hO x).2 ⟨j,T',by omega,hj,h3,h4⟩
     split
     ·exact this
     ·exact zb.2 (.inl this))
  (fun t a dj hP=>by
   obtain ⟨h1,U,O,h3,hO⟩:=hP
   refine ⟨h1,U,O,h3,fun x=>(hO x).trans ⟨?_,?_⟩⟩
   ·rintro ⟨j,T,h1,U⟩;exact ⟨j,T,by omega,U⟩
   ·rintro ⟨j,T,h1,U,h3⟩
    refine ⟨j,T,?_,U,h3⟩
    have:j≠t:=by rintro rfl;rw[dj] at U;cases U
    omega)
  (b,Rows (mW w) (w.length+1) R2,bh (mW w) 0) ⟨rfl,rfl,0,rfl,fun x=>⟨fun h=>by simp at h,fun ⟨j,T,h,_⟩=>by omega⟩⟩
 subst aB gF fv
 refine ⟨O,?_,fun x=>(hO x).trans ⟨fun ⟨j,T,_,h⟩=>⟨j,T,h⟩,fun ⟨j,T,h1,h⟩=>⟨j,T,by have:=hS j h1;have:= @C3 w;omega,h1,h⟩⟩⟩
 refine ahs ?_
 unfold VO
 rw[tP hw]
 simp only[ct,az,Int.toNat_natCast,kV,j9 hN,qv hN hR,Option.bind_some,V.bS,V.aC]
 have t7:(0:Int)≤(i:Int):=by omega
 have t8:(i:Int)<((w.length+1:Nat):Int):=by omega
 simp only[t7,t8,cU]
 refine (congrArg (fun o=>Option.bind o _) hc).trans ?_
 simp only[Option.bind_some,ek,dK,V.aC,V.cQ,V.bS,vU]
noncomputable def Oi (C:ae) (aj ar:Int) (ai:List V):Option (List V):=
 some [.bool ((aj:Int)==1)]
theorem VX {aj ar:Int} {ai:List V} {r:Option (List V)} (h:Oi CC aj ar ai=r):CC mi [.int .i64 aj,.int .i64 ar,.list aa ai]=r:=
 aY (key:=72) (L:=b6) (bs:=[]) (by kernel_rfl) ax (aX (by kernel_rfl) h)
noncomputable def Oj (C:ae) (aj ar:Int) (ai:List V):Option (List V):=
 bif (aj:Int)==8 then
  bif ((ai.length:Int):Int)==1 then
  (ai[0]?).bind fun x1=>
  (C mi [.int .i64 ((x1.cell 0).toInt),.int .i64 ((x1.cell 1).toInt),.list aa ((x1.cell 2).toList)]).bind fun r2=>
  some [.bool ((V.nth r2 0).toBool)]
  else
  some [.bool false]
 else
  some [.bool false]
theorem VY {aj ar:Int} {ai:List V} {r:Option (List V)} (h:Oj CC aj ar ai=r):CC lG [.int .i64 aj,.int .i64 ar,.list aa ai]=r:=
 aY (key:=55) (L:=b6) (bs:=[]) (by kernel_rfl) ax (aX (by kernel_rfl) h)
noncomputable def wi (C:ae) (m:List UInt8) (aj ar:Int) (ai c6:List V):Option (List V):=
 bif (aj:Int)==5 then
  (C G8 [.str m,.list aa ai,.list aI c6]).bind fun r1=>
  some [.list aD ((V.nth r1 0).toList)]
 else
  bif (aj:Int)==7 then
  (ai[0]?).bind fun x2=>
  (C G9 [.str m,.int .i64 ((x2.cell 0).toInt),.int .i64 ((x2.cell 1).toInt),.list aa ((x2.cell 2).toList),.list aI c6]).bind fun r3=>
  some [.list aD ((V.nth r3 0).toList)]
  else
  bif (aj:Int)==4 then
   bif (aj:Int)==4 then
   (C BQ [.str m,.int .i64 aj,.int .i64 ar,.list aa ai,.list aI c6]).bind fun r4=>
   some [.list aD ((V.nth r4 0).toList)]
   else
   bif (aj:Int)==8 then
    (ai[0]?).bind fun x5=>
    (C BR [.str m,.int .i64 ((x5.cell 0).toInt),.int .i64 ((x5.cell 1).toInt),.list aa ((x5.cell 2).toList),.list aI c6]).bind fun r6=>
    some [.list aD ((V.nth r6 0).toList)]
   else
    bif (decide (0≤(IntKind.wrap .i64 ((m.length:Int)+1))))&&((decide ((IntKind.wrap .i64 ((m.length:Int)+1))≤(IntKind.wrap .i64 ((m.length:Int)+1))))&&(Nat.ble (((IntKind.wrap .i64 ((m.length:Int)+1):Int).toNat)*24) cI)) then
    (C mZ [.list aI c6,.str m,.int .i64 aj,.int .i64 ar,.list aa ai,.list aD (List.replicate ((IntKind.wrap .i64 ((m.length:Int)+1):Int).toNat) (V.list aI ([]:List V)))]).bind fun r7=>
    some [.list aD ((V.nth ((r7.drop 1).drop 3) 0).toList)]
    else none
  else
   bif (aj:Int)==6 then
   (C BQ [.str m,.int .i64 aj,.int .i64 ar,.list aa ai,.list aI c6]).bind fun r8=>
   some [.list aD ((V.nth r8 0).toList)]
   else
   bif (aj:Int)==8 then
    (ai[0]?).bind fun x9=>
    (C BR [.str m,.int .i64 ((x9.cell 0).toInt),.int .i64 ((x9.cell 1).toInt),.list aa ((x9.cell 2).toList),.list aI c6]).bind fun eb=>
    some [.list aD ((V.nth eb 0).toList)]
   else
    bif (decide (0≤(IntKind.wrap .i64 ((m.length:Int)+1))))&&((decide ((IntKind.wrap .i64 ((m.length:Int)+1))≤(IntKind.wrap .i64 ((m.length:Int)+1))))&&(Nat.ble (((IntKind.wrap .i64 ((m.length:Int)+1):Int).toNat)*24) cI)) then
    (C mZ [.list aI c6,.str m,.int .i64 aj,.int .i64 ar,.list aa ai,.list aD (List.replicate ((IntKind.wrap .i64 ((m.length:Int)+1):Int).toNat) (V.list aI ([]:List V)))]).bind fun eT=>
    some [.list aD ((V.nth ((eT.drop 1).drop 3) 0).toList)]
    else none
theorem zi {m:List UInt8} {aj ar:Int} {ai c6:List V} {r:Option (List V)} (h:wi CC m aj ar ai c6=r):CC mY [.str m,.int .i64 aj,.int .i64 ar,.list aa ai,.list aI c6]=r:=
 aY (key:=30) (L:=b6) (bs:=[]) (by kernel_rfl) ax (aX (by kernel_rfl) h)
noncomputable abbrev VZ:Code:=cg Tryz.prog (au.aP 40)
noncomputable def zj (C:ae) (c6 t20:List V) (t21 t22:Int) (ms:List UInt8) (cv:List V) {β:Type} (kn:(Int × (List UInt8) × (List V))→Option β) (kr:(Int × Bool × (List UInt8) × (List V))→Option β):Option β:=
 bif decide ((t22:Int)<t21) then
  (idx t20 t22).bind fun x3=>
  (C pg [.str ms]).bind fun r4=>
  (C L9 [.list aI c6,.list aI ((V.nth r4 0).toList),.list aD cv]).bind fun r5=>
  (C mY [.str ms,.int .i64 ((x3.cell 0).toInt),.int .i64 ((x3.cell 1).toInt),.list aa ((x3.cell 2).toList),.list aI ((V.nth (r5.drop 1) 0).toList)]).bind fun r6=>
  bif (((x3.cell 0).toInt):Int)==7 then
  (C Ht [.list aI c6,.str ms,.bool true,.list aD ((V.nth r5 0).toList),.list aD ((V.nth r6 0).toList)]).bind fun r7=>
  kn (IntKind.wrap .i64 (t22+1),(V.nth r7 0).toStr,(V.nth ((r7.drop 1).drop 1) 0).toList)
  else
  (C lG [.int .i64 ((x3.cell 0).toInt),.int .i64 ((x3.cell 1).toInt),.list aa ((x3.cell 2).toList)]).bind fun r8=>
  (C Ht [.list aI c6,.str ms,.bool ((V.nth r8 0).toBool),.list aD ((V.nth r5 0).toList),.list aD ((V.nth r6 0).toList)]).bind fun r9=>
  kn (IntKind.wrap .i64 (t22+1),(V.nth r9 0).toStr,(V.nth ((r9.drop 1).drop 1) 0).toList)
 else
  kr (t22,decide ((t22:Int)<t21),ms,cv)
noncomputable def zk (C:ae) (c6 t20:List V) (t21:Int):(Int × (List UInt8) × (List V))→Option ((Int × (List UInt8) × (List V)) ⊕ (Int × Bool × (List UInt8) × (List V))):=un fun t22=>un fun ms cv=>zj C c6 t20 t21 t22 ms cv (fun y=>some (.inl y)) (fun r=>some (.inr r))
noncomputable def V0 (C:ae):bZ:=fun β n ds k=>
 bif Nat.beq n 49 then bK Mw [false,false,false,true,true,true] [[1,2,3,0,0,0,0]] (@zj C) ds k else
 none
abbrev ahP (C:ae) (b:bX):Prop:=bY Tryz.prog au C (V0 C) 40 (cj Tryz.prog (au.aP 40)) (au.sin 40).ba.length b
theorem ahQ (C:ae):ahP C (.loop (aw [1,1,0,1,0,0] VZ)):=
 bN Mw [false,false,false,true,true,true] [[1,2,3,0,0,0,0]] (@zj C) (by kernel_rfl) (a8 (bs:=[]) (by kernel_rfl) ax) (fun ds=>by kernel_rfl) (fun i x=>by kernel_rfl) (fun i x β k=>by kernel_rfl) (fun β ds k=>by kernel_rfl)
noncomputable def V1 (C:ae) (m:List UInt8) (kids c6:List V):Option (List V):=
 (kids[0]?).bind fun x1=>
 (C mY [.str m,.int .i64 ((x1.cell 0).toInt),.int .i64 ((x1.cell 1).toInt),.list aa ((x1.cell 2).toList),.list aI c6]).bind fun r2=>
 bif decide (1≤(kids.length:Int)) then
  (Loop (zk C c6 ((kids.drop 1).take (kids.length-1)) (((kids.drop 1).take (kids.length-1)).length:Int)) (0,m,(V.nth r2 0).toList)).bind (un fun (vP:Int)=>un fun (tE:Bool)=>un fun (ape:List UInt8) (v5:List V)=>
   some [.list aD v5])
 else none
theorem ahR {m:List UInt8} {kids c6:List V} {r:Option (List V)} (h:V1 CC m kids c6=r):CC G8 [.str m,.list aa kids,.list aI c6]=r:=
 aY (key:=40) (L:=V0 CC) (bs:=[.loop (aw [1,1,0,1,0,0] VZ)]) (by kernel_rfl) (bq (ahQ CC) ax) (aX (by kernel_rfl) h)
noncomputable abbrev Ia:Code:=cg Tryz.prog (au.aP 41)
noncomputable def C6 (C:ae) (ms:List UInt8) (Ol Om:Int) (On:List V) (wj i:Int) (Ib:List V) {β:Type} (kn:(Int × (List V))→Option β) (kr:(Int × Bool × (List V))→Option β):Option β:=
 bif decide ((i:Int)≤(ms.length:Int)) then
  (C vB [.int .i64 i,.list aI Ib]).bind fun r3=>
  kn (IntKind.wrap .i64 (i+1),(V.nth r3 0).toList)
 else
  kr (i,decide ((i:Int)≤(ms.length:Int)),Ib)
noncomputable def C7 (C:ae) (ms:List UInt8) (Ol Om:Int) (On:List V) (wj:Int):(Int × (List V))→Option ((Int × (List V)) ⊕ (Int × Bool × (List V))):=un fun i Ib=>C6 C ms Ol Om On wj i Ib (fun y=>some (.inl y)) (fun r=>some (.inr r))
noncomputable def C8 (C:ae) (ms:List UInt8) (wj:Int) (C9:List V) (i:Int) (aT:List V) {β:Type} (kn:(Int × (List V))→Option β) (kr:(Int × Bool × (List V))→Option β):Option β:=
 bif decide ((i:Int)≥wj) then
  (C pg [.str ms]).bind fun r8=>
  (C vB [.int .i64 i,.list aI ((V.nth r8 0).toList)]).bind fun r9=>
  bif (decide (0≤i))&&(decide (i<(C9.length:Int))) then
  (C9[(i:Int).toNat]?).bind fun im=>
  (da Tryz.prog aD C9 [((i:Int).toNat,0)]).bind fun et=>
  (C L8 [.list aI et.toList,.list aI ((V.nth r9 0).toList),.list aD aT]).bind fun eU=>
  bif (decide (0≤i))&&(decide (i<(((V.nth eU 0).toList).length:Int))) then
   (((V.nth eU 0).toList)[(i:Int).toNat]?).bind fun iN=>
   kn (IntKind.wrap .i64 (i-1),((V.nth eU 0).toList).set ((i:Int).toNat) (.list aI ((V.nth (eU.drop 1) 0).toList)))
  else none
  else none
 else
  kr (i,decide ((i:Int)≥wj),aT)
noncomputable def zl (C:ae) (ms:List UInt8) (wj:Int) (C9:List V):(Int × (List V))→Option ((Int × (List V)) ⊕ (Int × Bool × (List V))):=un fun i aT=>C8 C ms wj C9 i aT (fun y=>some (.inl y)) (fun r=>some (.inr r))
noncomputable def V2 (C:ae):bZ:=fun β n ds k=>
 bif Nat.beq n 65 then bK Mx [true,false,false,false,false,true,false] [[0,0,2,3,4,5,0,7]] (@C6 C) ds k else
 bif Nat.beq n 161 then bK My [true,false,false,false,true] [[0,0,2,3,4,0]] (@C8 C) ds k else
 none
abbrev V3 (C:ae) (b:bX):Prop:=bY Tryz.prog au C (V2 C) 41 (cj Tryz.prog (au.aP 41)) (au.sin 41).ba.length b
theorem ahS (C:ae):V3 C (.loop (aw [1,1,1,0,1,0,0] Ia)):=
 bN Mx [true,false,false,false,false,true,false] [[0,0,2,3,4,5,0,7]] (@C6 C) (by kernel_rfl) (a8 (bs:=[]) (by kernel_rfl) ax) (fun ds=>by kernel_rfl) (fun i x=>by kernel_rfl) (fun i x β k=>by kernel_rfl) (fun β ds k=>by kernel_rfl)
theorem ahT (C:ae):V3 C (.loop (aw [1,1,1,1,1,1,0,1,0,0] Ia)):=
 bN My [true,false,false,false,true] [[0,0,2,3,4,0]] (@C8 C) (by kernel_rfl) (a8 (bs:=[]) (by kernel_rfl) ax) (fun ds=>by kernel_rfl) (fun i x=>by kernel_rfl) (fun i x β k=>by kernel_rfl) (fun β ds k=>by kernel_rfl)
noncomputable def V4 (C:ae) (m:List UInt8) (qw qx:Int) (qy c6:List V):Option (List V):=
 (C pg [.str m]).bind fun r1=>
 (C L5 [.list aI c6,.int .i64 (IntKind.wrap .i64 ((m.length:Int)+1))]).bind fun r2=>
 (Loop (C7 C m qw qx qy ((V.nth r2 0).toInt)) ((V.nth r2 0).toInt,(V.nth r1 0).toList)).bind (un fun (fh:Int)=>un fun (ik:Bool) (ahU:List V)=>
  (C mY [.str m,.int .i64 qw,.int .i64 qx,.list aa qy,.list aI ahU]).bind fun r7=>
  bif (decide (0≤(IntKind.wrap .i64 ((m.length:Int)+1))))&&((decide ((IntKind.wrap .i64 ((m.length:Int)+1))≤(IntKind.wrap .i64 ((m.length:Int)+1))))&&(Nat.ble (((IntKind.wrap .i64 ((m.length:Int)+1):Int).toNat)*24) cI)) then
   (Loop (zl C m ((V.nth r2 0).toInt) ((V.nth r7 0).toList)) ((m.length:Int),List.replicate ((IntKind.wrap .i64 ((m.length:Int)+1):Int).toNat) (V.list aI ([]:List V)))).bind (un fun (apf:Int)=>un fun (yZ:Bool) (CH:List V)=>
    some [.list aD CH])
  else none)
theorem ahV {m:List UInt8} {qw qx:Int} {qy c6:List V} {r:Option (List V)} (h:V4 CC m qw qx qy c6=r):CC G9 [.str m,.int .i64 qw,.int .i64 qx,.list aa qy,.list aI c6]=r:=
 aY (key:=41) (L:=V2 CC) (bs:=[.loop (aw [1,1,1,0,1,0,0] Ia),.loop (aw [1,1,1,1,1,1,0,1,0,0] Ia)]) (by kernel_rfl) (bq (ahS CC) (bq (ahT CC) ax)) (aX (by kernel_rfl) h)
noncomputable abbrev V5:Code:=cg Tryz.prog (au.aP 42)
noncomputable def Db (C:ae) (c6 t20:List V) (t21:Int) (ms:List UInt8) (t22 fg eD:Int) (dS av:List V) {β:Type} (kn:(Int × Int × Int × (List V) × (List V))→Option β) (kr:(Int × Bool × Int × Int × (List V) × (List V))→Option β):Option β:=
 bif decide ((t22:Int)<t21) then
  (idx t20 t22).bind fun x3=>
  (C mY [.str ms,.int .i64 ((x3.cell 0).toInt),.int .i64 ((x3.cell 1).toInt),.list aa ((x3.cell 2).toList),.list aI c6]).bind fun r4=>
  (C L7 [.list aI c6,.int .i64 fg,.int .i64 eD,.list aa dS,.list aD av,.list aD ((V.nth r4 0).toList)]).bind fun r5=>
  kn (IntKind.wrap .i64 (t22+1),(V.nth r5 0).toInt,(V.nth (r5.drop 1) 0).toInt,(V.nth ((r5.drop 1).drop 1) 0).toList,(V.nth (r5.drop 3) 0).toList)
 else
  kr (t22,decide ((t22:Int)<t21),fg,eD,dS,av)
noncomputable def Dc (C:ae) (c6 t20:List V) (t21:Int) (ms:List UInt8):(Int × Int × Int × (List V) × (List V))→Option ((Int × Int × Int × (List V) × (List V)) ⊕ (Int × Bool × Int × Int × (List V) × (List V))):=un fun t22=>un fun fg=>un fun eD=>un fun dS av=>Db C c6 t20 t21 ms t22 fg eD dS av (fun y=>some (.inl y)) (fun r=>some (.inr r))
noncomputable def V6 (C:ae):bZ:=fun β n ds k=>
 bif Nat.beq n 49 then bK Mz [false,false,false,true,false,true,true,true,true] [[1,2,3,0,0,5,0,0,0,0]] (@Db C) ds k else
 none
abbrev ahW (C:ae) (b:bX):Prop:=bY Tryz.prog au C (V6 C) 42 (cj Tryz.prog (au.aP 42)) (au.sin 42).ba.length b
theorem ahX (C:ae):ahW C (.loop (aw [1,1,0,1,0,0] V5)):=
 bN Mz [false,false,false,true,false,true,true,true,true] [[1,2,3,0,0,5,0,0,0,0]] (@Db C) (by kernel_rfl) (a8 (bs:=[]) (by kernel_rfl) ax) (fun ds=>by kernel_rfl) (fun i x=>by kernel_rfl) (fun i x β k=>by kernel_rfl) (fun β ds k=>by kernel_rfl)
noncomputable def V7 (C:ae) (m:List UInt8) (aj ar:Int) (ai c6:List V):Option (List V):=
 (ai[0]?).bind fun x1=>
 (C mY [.str m,.int .i64 ((x1.cell 0).toInt),.int .i64 ((x1.cell 1).toInt),.list aa ((x1.cell 2).toList),.list aI c6]).bind fun r2=>
 bif decide (1≤(ai.length:Int)) then
  (Loop (Dc C c6 ((ai.drop 1).take (ai.length-1)) (((ai.drop 1).take (ai.length-1)).length:Int) m) (0,aj,ar,ai,(V.nth r2 0).toList)).bind (un fun (ml:Int)=>un fun (nc:Bool)=>un fun (apg:Int)=>un fun (aph:Int)=>un fun (api:List V) (ng:List V)=>
   some [.list aD ng])
 else none
theorem ahY {m:List UInt8} {aj ar:Int} {ai c6:List V} {r:Option (List V)} (h:V7 CC m aj ar ai c6=r):CC BQ [.str m,.int .i64 aj,.int .i64 ar,.list aa ai,.list aI c6]=r:=
 aY (key:=42) (L:=V6 CC) (bs:=[.loop (aw [1,1,0,1,0,0] V5)]) (by kernel_rfl) (bq (ahX CC) ax) (aX (by kernel_rfl) h)
noncomputable def V8 (C:ae) (m:List UInt8) (qw qx:Int) (qy c6:List V):Option (List V):=
 (C mY [.str m,.int .i64 qw,.int .i64 qx,.list aa qy,.list aI c6]).bind fun r1=>
 (C L6 [.list aI c6,.str m,.int .i64 (Int.fdiv (m.length:Int) (2^(min (6:Int).toNat (IntKind.bits .i64)))),.list aD ((V.nth r1 0).toList)]).bind fun r2=>
 some [.list aD ((V.nth ((r2.drop 1).drop 1) 0).toList)]
theorem ahZ {m:List UInt8} {qw qx:Int} {qy c6:List V} {r:Option (List V)} (h:V8 CC m qw qx qy c6=r):CC BR [.str m,.int .i64 qw,.int .i64 qx,.list aa qy,.list aI c6]=r:=
 aY (key:=43) (L:=b6) (bs:=[]) (by kernel_rfl) ax (aX (by kernel_rfl) h)
end Go.AM
set_option maxRecDepth 100000
namespace Go.AM
open Go.Proofs Ex
def PR (F:Nat) (R:Nat→Option Nat) (Q:Nat→Nat→Prop) (t:Nat) (Rt:Nat→Option Nat):Prop:=
 (∀i,F.testBit i=true→i<t→∃S,Rt i=some S∧Q i S)∧∀i,t≤i→Rt i=R i
theorem PR.zero {F:Nat} {R:Nat→Option Nat} {Q:Nat→Nat→Prop}:PR F R Q 0 R:=⟨fun _ _ h=>by omega,fun _ _=>rfl⟩
theorem PR.upd {F t S:Nat} {R Rt:Nat→Option Nat} {Q:Nat→Nat→Prop} (h:PR F R Q t Rt) (hQ:Q t S):PR F R Q (t+1) (upd Rt t S):=by
 refine ⟨fun i hi ht=> ?_,fun i hi=> ?_⟩
 ·by_cases e:i=t
  ·subst e;exact ⟨S,HU,hQ⟩
  ·rw[N5 e];exact h.1 i hi (by omega)
 ·rw[N5 (by omega)];exact h.2 i (by omega)
theorem PR.skip {F t:Nat} {R Rt:Nat→Option Nat} {Q:Nat→Nat→Prop} (h:PR F R Q t Rt) (hF:F.testBit t=false):PR F R Q (t+1) Rt:=by
 refine ⟨fun i hi ht=> ?_,fun i hi=>h.2 i (by omega)⟩
 by_cases e:i=t
 ·subst e;rw[hF] at hi;cases hi
 ·exact h.1 i hi (by omega)
theorem PR.ends {w:List UInt8} {F:Nat} {R Rt:Nat→Option Nat} {L:Lg} (h:PR F R (fun i S=> ∀j,S.testBit j=true↔Pt w L i j) (64*mW w) Rt) (hF:In w F):Ends w F Rt L:=fun i hi=>by
 have:=hF i hi;have:= @C3 w
 exact h.1 i hi (by omega)
theorem V9 {w:List UInt8} {i:Nat} (h:i<w.length):sl w i (i+1)=[w.getD i 0]:=by
 unfold sl
 rw[show i+1-i=1 by omega,List.drop_eq_getElem_cons h,List.take_succ_cons,List.take_zero]
 simp[h]
theorem ah0 {w:List UInt8} {o l:Int} {i j:Nat} (ho:o=1∨o=2∨o=3) (hi:i≤w.length):(base w o l i).testBit j=true↔Pt w (dv o l []) i j:=by
 unfold base Pt dv
 rcases ho with rfl|rfl|rfl
 ·simp
 ·simp only[cU]
  rw[zc]
  constructor
  ·rintro rfl;exact ⟨bV _,hi,UK⟩
  ·rintro ⟨h1,U,h3⟩
   have:=za h1 U
   rw[h3,List.length_nil] at this
   omega
 ·simp only[show¬((3:Int)=2) by omega,fS,cU,true_and]
  by_cases h:i<w.length∧dU w i=l
  ·rw[ag h,zc]
   have e:=V9 h.1
   constructor
   ·rintro rfl
    exact ⟨by omega,by omega,_,e,h.2⟩
   ·rintro ⟨h1,U,c,h3,h4⟩
    have:=za h1 U
    rw[h3] at this
    simp at this
    omega
  ·rw[ah h]
   constructor
   ·intro h;simp at h
   ·rintro ⟨h1,U,c,h3,h4⟩
    have:=za h1 U
    rw[h3] at this
    simp at this
    have e2:j=i+1:=by omega
    subst e2
    have aQ:i<w.length:=by omega
    have e:=V9 aQ
    rw[e] at h3
    injection h3 with h3
    subst h3
    exact absurd ⟨aQ,h4⟩ h
theorem ah1 {e:Ex}:CC mi (b9 e [])=some [.bool (decide (e.op=1))]:=by
 refine VX ?_
 unfold Oi
 congr 3
def Dd (e:Ex):Bool:=decide (e.op=8∧e.kids.length=1∧∀k∈e.kids,k.op=1)
theorem ah2 {e:Ex}:CC lG (b9 e [])=some [.bool (Dd e)]:=by
 obtain ⟨o,l,ks⟩:=e
 refine VY ?_
 unfold Oj Dd
 simp only[Ex.op,Ex.kids,dD,bt]
 by_cases h1:o=8
 ·rw[ag h1]
  match ks with
  | []=>simp
  | [k]=>
   simp only[cr,fp,List.getElem?_cons_zero,Option.bind_some,bz,bA,bB]
   rw[ag (by simp)]
   refine (congrArg (fun o=>Option.bind o _) (ah1 (e:=k))).trans ?_
   cases k
   simp[h1,Ex.op]
   try rfl
  | k::k2::ks=>
   rw[ah (by simp<;>omega)]
   simp
 ·rw[ah h1];simp[h1]
theorem ah3 {w:List UInt8} {o l:Int} {ks:List V} {F:Nat} (hw:w.length≤2048) (hl: ∀i,i<w.length→0≤dU w i) (ho:o=1∨o=2∨o=3) (hF:In w F):
  ∃R,CC mZ [uV w F,.str w,.int .i64 o,.int .i64 l,.list aa ks,oV w (fun _=>none)]=some [.str w,.int .i64 o,.int .i64 l,.list aa ks,oV w R]∧Ends w F R (dv o l []):=by
 obtain ⟨_,hc,R,rfl,hP⟩:=ag8 (m:=mW w) (F:=F) (nh hw)
  (P:=fun t a=> ∃R,a=(w,o,l,ks,Rows (mW w) (w.length+1) R)∧PR F (fun _=>none) (fun i S=> ∀j,S.testBit j=true↔Pt w (dv o l []) i j) t R)
  (fun t a ht dj hP=>by
   obtain ⟨R,rfl,hP⟩:=hP
   exact ⟨(w,o,l,ks,_),ahx hw hl (hF t dj),_,rfl,hP.upd fun j=>ah0 ho (hF t dj)⟩)
  (fun t a dj hP=>by
   obtain ⟨R,h5,hP⟩:=hP
   exact ⟨R,h5,hP.skip dj⟩)
  (w,o,l,ks,Rows (mW w) (w.length+1) fun _=>none) ⟨_,rfl,PR.zero⟩
 exact ⟨R,hc,hP.ends hF⟩
theorem qz {w:List UInt8} {F i:Nat} {R:Nat→Option Nat} {L:Lg} (h:Ends w F R L) (hi:F.testBit i=true): ∃S,R i=some S∧In w S∧(∀j,j<i→S.testBit j=false)∧∀j,S.testBit j=true↔Pt w L i j:=by
 obtain ⟨S,h1,U⟩:=h i hi
 exact ⟨S,h1,UM U,fun j hj=>UN U fun h=>by have:=h.1;omega,U⟩
theorem ah4 {w:List UInt8} {k:Ex} {F:Nat} {R0:Nat→Option Nat} (hw:w.length≤2048) (hF:In w F)
  (hk:CC mY (.str w::b9 k [uV w F])=some [oV w R0]) (hR:Ends w F R0 k.aL):
  ∃R,CC BR (.str w::b9 k [uV w F])=some [oV w R]∧Ends w F R (fun v=> ¬k.aL v):=by
 obtain ⟨_,hc,R,rfl,hP⟩:=ahb (m:=mW w) (F:=F) (nh hw)
  (P:=fun t a=> ∃R,a=(w,((w.length/64:Nat):Int),Rows (mW w) (w.length+1) R)∧PR F R0 (fun i S=> ∀j,S.testBit j=true↔Pt w (fun v=> ¬k.aL v) i j) t R)
  (fun t a ht dj hP=>by
   obtain ⟨R,rfl,hP⟩:=hP
   obtain ⟨S,g1,g2,g3,g4⟩:=qz hR dj
   have hRt:R t=some S:=by rw[hP.2 t (bV _),g1]
   refine ⟨(w,_,_),ahN hw (hF t dj) hRt,_,rfl,hP.upd fun j=> ?_⟩
   rw[VV]
   have:=g4 j
   simp only[aO,dX,lQ,Pt]
   constructor
   ·rintro ⟨h1,U,h3⟩
    exact ⟨h1,U,fun h=>by rw[this.2 ⟨h1,U,h⟩] at h3;cases h3⟩
   ·rintro ⟨h1,U,h3⟩
    refine ⟨h1,U,?_⟩
    cases hc:S.testBit j
    ·rfl
    ·exact absurd (this.1 hc).2.2 h3)
  (fun t a dj hP=>by
   obtain ⟨R,h5,hP⟩:=hP
   exact ⟨R,h5,hP.skip dj⟩)
  (w,((w.length/64:Nat):Int),Rows (mW w) (w.length+1) R0) ⟨_,rfl,PR.zero⟩
 refine ⟨R,?_,hP.ends hF⟩
 refine ahZ ?_
 unfold V8
 refine (congrArg (fun o=>Option.bind o _) hk).trans ?_
 simp only[Option.bind_some,V.aC,V.bS]
 rw[vT]
 refine (congrArg (fun o=>Option.bind o _) hc).trans ?_
 simp only[Option.bind_some,ek,dK,V.aC,V.bS]
def qA (w:List UInt8) (k:Ex):Prop:= ∀F,In w F→∃R,CC mY (.str w::b9 k [uV w F])=some [oV w R]∧Ends w F R k.aL
theorem ah5 {w:List UInt8} {A:Lg} {F:Nat} {R:Nat→Option Nat} (hw:w.length≤2048) (hF:In w F) (hR:Ends w F R A):
  ∃M:Nat,CC VD [uV w F,uV w 0,oV w R]=some [oV w R,uV w M]∧In w M∧∀x,M.testBit x=true↔∃i,F.testBit i=true∧Pt w A i x:=by
 obtain ⟨_,hc,M,rfl,hM⟩:=ahe (m:=mW w) (F:=F) (nh hw)
  (P:=fun t a=> ∃M:Nat,a=(Rows (mW w) (w.length+1) R,bh (mW w) M)∧∀x,M.testBit x=true↔∃i,i<t∧F.testBit i=true∧Pt w A i x)
  (fun t a ht dj hP=>by
   obtain ⟨M,rfl,hM⟩:=hP
   obtain ⟨S,g1,g2,g3,g4⟩:=qz hR dj
   refine ⟨(_,_),ahy hw (hF t dj) g1 g3,_,rfl,fun x=> ?_⟩
   rw[zb,hM x,g4 x]
   constructor
   ·rintro (⟨i,h1,U⟩|h)
    ·exact ⟨i,by omega,U⟩
    ·exact ⟨t,by omega,dj,h⟩
   ·rintro ⟨i,h1,U,h3⟩
    by_cases e:i=t
    ·subst e;exact .inr h3
    ·exact .inl ⟨i,by omega,U,h3⟩)
  (fun t a dj hP=>by
   obtain ⟨M,h5,hM⟩:=hP
   refine ⟨M,h5,fun x=>(hM x).trans ⟨fun ⟨i,h1,U⟩=>⟨i,by omega,U⟩,fun ⟨i,h1,U,h3⟩=>⟨i,?_,U,h3⟩⟩⟩
   have:i≠t:=by rintro rfl;rw[dj] at U;cases U
   omega)
  (Rows (mW w) (w.length+1) R,bh (mW w) 0) ⟨0,rfl,fun x=>⟨fun h=>by simp at h,fun ⟨i,h,_⟩=>by omega⟩⟩
 have Wa: ∀x,M.testBit x=true↔∃i,F.testBit i=true∧Pt w A i x:=fun x=>
  (hM x).trans ⟨fun ⟨i,_,h⟩=>⟨i,h⟩,fun ⟨i,h1,h⟩=>⟨i,by have:=hF i h1;have:= @C3 w;omega,h1,h⟩⟩
 exact ⟨M,hc,fun i hi=>by obtain ⟨_,_,h⟩:=(Wa i).1 hi;exact h.2.1,Wa⟩
theorem ah6 {k:Ex} (h:Dd k=true) (v:List UInt8):k.aL v:=by
 obtain ⟨o,l,ks⟩:=k
 unfold Dd at h
 obtain ⟨h1,U,h3⟩:=iw h
 have h1:o=8:=h1
 subst h1
 have U:ks.length=1:=U
 have h3: ∀k∈ks,k.op=1:=h3
 match ks,U,h3 with
 | [a],_,h3=>
  have:=h3 a (by simp)
  obtain ⟨o,l,ks⟩:=a
  rw[kU]
  have e:o=1:=this
  subst e
  simp[dv,pq,kU]
theorem Wb {w:List UInt8} {A:Lg} {k:Ex} {F M:Nat} {R R2:Nat→Option Nat} {b:Bool} (hw:w.length≤2048) (hF:In w F) (hR:Ends w F R A)
  (hM: ∀x,M.testBit x=true↔∃i,F.testBit i=true∧Pt w A i x) (oq:Ends w M R2 k.aL)
  (hb:b=true→∀i j x,Pt w k.aL i j→Pt w k.aL j x→Pt w k.aL i x):
  ∃R',CC VE [uV w F,.str w,.bool b,oV w R,oV w R2]=some [.str w,.bool b,oV w R',oV w R2]∧Ends w F R' (L2 A k.aL):=by
 obtain ⟨_,hc,R',rfl,hP⟩:=ahf (m:=mW w) (F:=F) (nh hw)
  (P:=fun t a=> ∃Rt,a=(w,b,Rows (mW w) (w.length+1) Rt,Rows (mW w) (w.length+1) R2)∧PR F R (fun i S=> ∀j,S.testBit j=true↔Pt w (L2 A k.aL) i j) t Rt)
  (fun t a ht dj hP=>by
   obtain ⟨Rt,rfl,hP⟩:=hP
   obtain ⟨S,g1,g2,g3,g4⟩:=qz hR dj
   have De: ∀j,S.testBit j=true→M.testBit j=true:=fun j hj=>(hM j).2 ⟨t,dj,(g4 j).1 hj⟩
   obtain ⟨O,ho,hO⟩:=ahO (R:=Rt) (R2:=R2) (b:=b) hw (hF t dj) (by rw[hP.2 t (bV _),g1]) g2
    (fun j hj=>by obtain ⟨T,q1,q2,q3,q4⟩:=qz oq (De j hj);exact ⟨T,q1,q3⟩)
    (fun hbt j' T' j T x gb hj e' e h1 U=>by
     obtain ⟨T1,q1,q2,q3,q4⟩:=qz oq (De j hj)
     obtain ⟨T2,p1,p2,p3,p4⟩:=qz oq (De j' gb)
     rw[q1] at e;rw[p1] at e'
     obtain rfl:=cT e
     obtain rfl:=cT e'
     exact (p4 x).2 (hb hbt _ _ _ ((p4 j).1 h1) ((q4 x).1 U)))
   refine ⟨(w,b,_,_),ho,_,rfl,hP.upd fun x=> ?_⟩
   rw[hO x,af5]
   constructor
   ·rintro ⟨j,T,h1,U,h3⟩
    obtain ⟨T1,q1,q2,q3,q4⟩:=qz oq (De j h1)
    rw[q1] at U
    obtain rfl:=cT U
    exact ⟨j,(g4 j).1 h1,(q4 x).1 h3⟩
   ·rintro ⟨j,h1,U⟩
    have hj:=(g4 j).2 h1
    obtain ⟨T1,q1,q2,q3,q4⟩:=qz oq (De j hj)
    exact ⟨j,T1,hj,q1,(q4 x).2 U⟩)
  (fun t a dj hP=>by
   obtain ⟨R,h5,hP⟩:=hP
   exact ⟨R,h5,hP.skip dj⟩)
  (w,b,Rows (mW w) (w.length+1) R,Rows (mW w) (w.length+1) R2) ⟨_,rfl,PR.zero⟩
 exact ⟨R',hc,hP.ends hF⟩
theorem ah7 {w:List UInt8} {F:Nat} (hw:w.length≤2048) (hF:In w F) {rest:List Ex} (hlen:rest.length≤maxLen) (hk: ∀k∈rest,qA w k):
  ∀(aJ pre:List Ex) (A:Lg) (R:Nat→Option Nat),rest=pre++aJ→Ends w F R A→
  ∃R',Loop (zk CC (bh (mW w) F) (rest.map enc) ((rest.map enc).length:Int)) (((pre.length:Nat):Int),w,Rows (mW w) (w.length+1) R)=some (((rest.map enc).length:Int),false,w,Rows (mW w) (w.length+1) R')∧Ends w F R' ((aJ.map aL).foldl L2 A):=by
 have hm:=po
 intro aJ
 induction aJ with
 | nil=>
  intro pre A R e hR
  rw[dy] at e
  subst e
  refine ⟨R,bj ?_,hR⟩
  simp only[zk,zj,un,bt]
  rw[az,ah (by omega),cl (by omega)]
 | cons k aJ ih=>
  intro pre A R e hR
  have yg:k∈rest:=by rw[e];simp
  have aQ:pre.length<rest.length:=by rw[e];simp
  obtain ⟨M,c1,hMi,hM⟩:=ah5 hw hF hR
  obtain ⟨R2,c2,oq⟩:=hk k yg M hMi
  have step: ∃R',zk CC (bh (mW w) F) (rest.map enc) ((rest.map enc).length:Int) (((pre.length:Nat):Int),w,Rows (mW w) (w.length+1) R)=some (.inl (((pre.length+1:Nat):Int),w,Rows (mW w) (w.length+1) R'))∧Ends w F R' (L2 A k.aL):=by
   have hi:idx (rest.map enc) ((pre.length:Nat):Int)=some k.enc:=by rw[e];exact jJ pre aJ k
   by_cases h7:k.op=7
   ·obtain ⟨R',c3,sk⟩:=Wb (b:=true) hw hF hR hM oq (fun _ i j x h1 U=>by
     obtain ⟨o,l,ks⟩:=k
     have e:o=7:=h7
     subst e
     have el:(Ex.node 7 l ks).aL=dH (pq (ks.map aL)):=by rw[kU];funext v;simp[dv]
     rw[el] at h1 U⊢
     exact NX h1 U)
    refine ⟨R',?_,sk⟩
    simp only[zk,zj,un,bt]
    rw[az,ag (by omega),hi,tP hw]
    simp only[Option.bind_some,bz,bA,bB,V.aC,V.bS]
    refine (congrArg (fun o=>Option.bind o _) c1).trans ?_
    simp only[Option.bind_some,ek,dK,V.aC,V.bS]
    refine (congrArg (fun o=>Option.bind o _) c2).trans ?_
    simp only[Option.bind_some,V.aC,V.bS]
    rw[dD,ag h7]
    refine (congrArg (fun o=>Option.bind o _) c3).trans ?_
    simp only[Option.bind_some,ek,dK,V.aC,V.bS,V.mh]
    rw[wrap64 (by omega) (by omega)]
    rfl
   ·obtain ⟨R',c3,sk⟩:=Wb (b:=Dd k) hw hF hR hM oq (fun hu i j x h1 U=>⟨lg h1.1 U.1,U.2.1,ah6 hu _⟩)
    refine ⟨R',?_,sk⟩
    simp only[zk,zj,un,bt]
    rw[az,ag (by omega),hi,tP hw]
    simp only[Option.bind_some,bz,bA,bB,V.aC,V.bS]
    refine (congrArg (fun o=>Option.bind o _) c1).trans ?_
    simp only[Option.bind_some,ek,dK,V.aC,V.bS]
    refine (congrArg (fun o=>Option.bind o _) c2).trans ?_
    simp only[Option.bind_some,V.aC,V.bS]
    rw[dD,ah h7]
    refine (congrArg (fun o=>Option.bind o _) (ah2 (e:=k))).trans ?_
    simp only[Option.bind_some,V.aC,V.cQ]
    refine (congrArg (fun o=>Option.bind o _) c3).trans ?_
    simp only[Option.bind_some,ek,dK,V.aC,V.bS,V.mh]
    rw[wrap64 (by omega) (by omega)]
    rfl
  obtain ⟨R',bM,sk⟩:=step
  obtain ⟨Oo,h1,U⟩:=ih (pre++[k]) (L2 A k.aL) R' (by simp[e]) sk
  refine ⟨Oo,?_,U⟩
  rw[bW bM]
  simpa using h1
theorem drop_one {α:Type} {a:α} {l:List α}:((a::l).drop 1).take ((a::l).length-1)=l:=by simp
theorem ah8 {w:List UInt8} {F:Nat} (hw:w.length≤2048) (hF:In w F) {k:Ex} {rest:List Ex} (hlen:rest.length≤maxLen) (mo:qA w k) (hk: ∀k∈rest,qA w k):
  ∃R,CC G8 [.str w,.list aa ((k::rest).map enc),uV w F]=some [oV w R]∧Ends w F R (tF ((k::rest).map aL)):=by
 obtain ⟨R0,c0,h0⟩:=mo F hF
 obtain ⟨R,hl,hR⟩:=ah7 hw hF hlen hk rest [] k.aL R0 rfl h0
 refine ⟨R,ahR ?_,by simpa[tF] using hR⟩
 unfold V1
 simp only[cr,List.getElem?_cons_zero,Option.bind_some,bz,bA,bB]
 refine (congrArg (fun o=>Option.bind o _) c0).trans ?_
 simp only[Option.bind_some,V.aC,V.bS]
 rw[az,ag (by simp only[List.length_cons];omega),drop_one]
 refine (congrArg (fun o=>Option.bind o _) hl).trans ?_
 rfl
def comb (o:Int) (A B:Lg):Lg:=fun v=>if o=4 then A v∨B v else A v∧B v
theorem ah9 {w:List UInt8} {A:Lg} {k:Ex} {F:Nat} {R R2:Nat→Option Nat} {o l:Int} {ks:List V} (hw:w.length≤2048) (hF:In w F) (hR:Ends w F R A) (oq:Ends w F R2 k.aL):
  ∃R',CC VB [uV w F,.int .i64 o,.int .i64 l,.list aa ks,oV w R,oV w R2]=some [.int .i64 o,.int .i64 l,.list aa ks,oV w R',oV w R2]∧Ends w F R' (comb o A k.aL):=by
 obtain ⟨_,hc,R',rfl,hP⟩:=ahc (m:=mW w) (F:=F) (nh hw)
  (P:=fun t a=> ∃Rt,a=(o,l,ks,Rows (mW w) (w.length+1) Rt,Rows (mW w) (w.length+1) R2)∧PR F R (fun i S=> ∀j,S.testBit j=true↔Pt w (comb o A k.aL) i j) t Rt)
  (fun t a ht dj hP=>by
   obtain ⟨Rt,rfl,hP⟩:=hP
   obtain ⟨S,g1,g2,g3,g4⟩:=qz hR dj
   obtain ⟨T,q1,q2,q3,q4⟩:=qz oq dj
   refine ⟨(o,l,ks,_,_),ahF hw (hF t dj) (by rw[hP.2 t (bV _),g1]) q1,_,rfl,hP.upd fun x=> ?_⟩
   rw[Of]
   unfold comb
   have a1:=g4 x
   have a2:=q4 x
   unfold Pt at*
   by_cases h4:o=4
   ·rw[ag h4,Aq,a1,a2]
    simp only[ag h4]
    constructor
    ·rintro (⟨h1,U,h3⟩|⟨h1,U,h3⟩)
     ·exact ⟨h1,U,.inl h3⟩
     ·exact ⟨h1,U,.inr h3⟩
    ·rintro ⟨h1,U,h3|h3⟩
     ·exact .inl ⟨h1,U,h3⟩
     ·exact .inr ⟨h1,U,h3⟩
   ·rw[ah h4,aO,a1,a2]
    simp only[ah h4]
    constructor
    ·rintro ⟨⟨h1,U,h3⟩,⟨_,_,h4⟩⟩
     exact ⟨h1,U,h3,h4⟩
    ·rintro ⟨h1,U,h3,h4⟩
     exact ⟨⟨h1,U,h3⟩,⟨h1,U,h4⟩⟩)
  (fun t a dj hP=>by
   obtain ⟨R,h5,hP⟩:=hP
   exact ⟨R,h5,hP.skip dj⟩)
  (o,l,ks,Rows (mW w) (w.length+1) R,Rows (mW w) (w.length+1) R2) ⟨_,rfl,PR.zero⟩
 exact ⟨R',hc,hP.ends hF⟩
theorem aia {w:List UInt8} {F:Nat} {o l:Int} {es:List V} (hw:w.length≤2048) (hF:In w F) {rest:List Ex} (hlen:rest.length≤maxLen) (hk: ∀k∈rest,qA w k):
  ∀(aJ pre:List Ex) (A:Lg) (R:Nat→Option Nat),rest=pre++aJ→Ends w F R A→
  ∃R',Loop (Dc CC (bh (mW w) F) (rest.map enc) ((rest.map enc).length:Int) w) (((pre.length:Nat):Int),o,l,es,Rows (mW w) (w.length+1) R)=some (((rest.map enc).length:Int),false,o,l,es,Rows (mW w) (w.length+1) R')∧Ends w F R' ((aJ.map aL).foldl (comb o) A):=by
 have hm:=po
 intro aJ
 induction aJ with
 | nil=>
  intro pre A R e hR
  rw[dy] at e
  subst e
  refine ⟨R,bj ?_,hR⟩
  simp only[Dc,Db,un,bt]
  rw[az,ah (by omega),cl (by omega)]
 | cons k aJ ih=>
  intro pre A R e hR
  have yg:k∈rest:=by rw[e];simp
  have aQ:pre.length<rest.length:=by rw[e];simp
  obtain ⟨R2,c2,oq⟩:=hk k yg F hF
  obtain ⟨R',c3,sk⟩:=ah9 (o:=o) (l:=l) (ks:=es) hw hF hR oq
  have bM:Dc CC (bh (mW w) F) (rest.map enc) ((rest.map enc).length:Int) w (((pre.length:Nat):Int),o,l,es,Rows (mW w) (w.length+1) R)=some (.inl (((pre.length+1:Nat):Int),o,l,es,Rows (mW w) (w.length+1) R')):=by
   have hi:idx (rest.map enc) ((pre.length:Nat):Int)=some k.enc:=by rw[e];exact jJ pre aJ k
   simp only[Dc,Db,un,bt]
   rw[az,ag (by omega),hi]
   simp only[Option.bind_some,bz,bA,bB,V.aC,V.bS]
   refine (congrArg (fun o=>Option.bind o _) c2).trans ?_
   simp only[Option.bind_some,V.aC,V.bS]
   refine (congrArg (fun o=>Option.bind o _) c3).trans ?_
   simp only[Option.bind_some,ek,dK,V.aC,V.bS,V.toInt_int]
   rw[wrap64 (by omega) (by omega)]
   rfl
  obtain ⟨Oo,h1,U⟩:=ih (pre++[k]) (comb o A k.aL) R' (by simp[e]) sk
  refine ⟨Oo,?_,U⟩
  rw[bW bM]
  simpa using h1
theorem Wc {w:List UInt8} {F:Nat} {o l:Int} (hw:w.length≤2048) (hF:In w F) {k:Ex} {rest:List Ex} (hlen:rest.length≤maxLen) (mo:qA w k) (hk: ∀k∈rest,qA w k):
  ∃R,CC BQ [.str w,.int .i64 o,.int .i64 l,.list aa ((k::rest).map enc),uV w F]=some [oV w R]∧Ends w F R ((rest.map aL).foldl (comb o) k.aL):=by
 obtain ⟨R0,c0,h0⟩:=mo F hF
 obtain ⟨R,hl,hR⟩:=aia (o:=o) (l:=l) (es:=(k::rest).map enc) hw hF hlen hk rest [] k.aL R0 rfl h0
 refine ⟨R,ahY ?_,hR⟩
 unfold V7
 simp only[cr,List.getElem?_cons_zero,Option.bind_some,bz,bA,bB]
 refine (congrArg (fun o=>Option.bind o _) c0).trans ?_
 simp only[Option.bind_some,V.aC,V.bS]
 rw[az,ag (by simp only[List.length_cons];omega),drop_one]
 refine (congrArg (fun o=>Option.bind o _) hl).trans ?_
 rfl
theorem Wd {v:List UInt8}: ∀(Ls:List Lg) (A:Lg),Ls.foldl (comb 4) A v↔A v∨∃L∈Ls,L v
 | [],A=>by simp
 | L::Ls,A=>by
  rw[List.foldl_cons,Wd Ls]
  simp[comb,or_assoc]
theorem We {v:List UInt8}: ∀(Ls:List Lg) (A:Lg),Ls.foldl (comb 6) A v↔A v∧∀L∈Ls,L v
 | [],A=>by simp
 | L::Ls,A=>by
  rw[List.foldl_cons,We Ls]
  simp[comb,and_assoc]
theorem Wf {X R:Type} {step:X→Option (X ⊕ R)} {ks:List Ex} (st:Nat→X) (p:Ex→Bool) (r1:Nat→R) (r2:R)
  (h: ∀pre k aJ,ks=pre++k::aJ→step (st pre.length)=if p k=true then some (.inr (r1 pre.length)) else some (.inl (st (pre.length+1)))) (he:step (st ks.length)=some (.inr r2)):
  ∀aJ pre,ks=pre++aJ→(aJ.any p=true∧∃i,Loop step (st pre.length)=some (r1 i))∨(aJ.any p=false∧Loop step (st pre.length)=some r2):=by
 intro aJ
 induction aJ with
 | nil=>
  intro pre br
  have:pre.length=ks.length:=by rw[br];simp
  rw[this]
  exact .inr ⟨rfl,bj he⟩
 | cons k aJ ih=>
  intro pre br
  have h1:=h pre k aJ br
  cases hp:p k with
  | true=>
   rw[ag hp] at h1
   exact .inl ⟨by simp[hp],_,bj h1⟩
  | false=>
   rw[ah (by simp[hp])] at h1
   rw[bW h1]
   have:=ih (pre++[k]) (by rw[br];simp)
   simpa[hp] using this
end Go.AM
set_option maxRecDepth 100000
namespace Go.AM
open Go.Proofs
noncomputable def Wg (C:ae) (aj ar:Int) (ai:List V):Option (List V):=
 (C yA [.int .i64 aj,.int .i64 ar,.list aa ai,.int .i64 6]).bind fun r1=>
 some [.bool ((((V.nth r1 0).toInt):Int)==0)]
theorem aib {aj ar:Int} {ai:List V} {r:Option (List V)} (h:Wg CC aj ar ai=r):CC yC [.int .i64 aj,.int .i64 ar,.list aa ai]=r:=
 aY (key:=26) (L:=b6) (bs:=[]) (by kernel_rfl) ax (aX (by kernel_rfl) h)
noncomputable def Wh (C:ae) (aj ar:Int) (ai:List V):Option (List V):=
 (C vA [.int .i64 aj,.int .i64 ar,.list aa ai,.int .i64 400]).bind fun r1=>
 some [.int .i64 ((V.nth r1 0).toInt)]
theorem aic {aj ar:Int} {ai:List V} {r:Option (List V)} (h:Wh CC aj ar ai=r):CC GU [.int .i64 aj,.int .i64 ar,.list aa ai]=r:=
 aY (key:=6) (L:=b6) (bs:=[]) (by kernel_rfl) ax (aX (by kernel_rfl) h)
end Go.AM
set_option maxRecDepth 100000
namespace Go.AM
open Go.Proofs Ex
theorem Ic (m n:Int):(m==n)=decide (m=n):=by rw[nB];simp
theorem Oq (e:Ex) (h:e.Ok):CC yC (b9 e [])=some [.bool (decide (e.val 6=0))]:=by
 refine aib ?_
 unfold Wg
 rw[NV e h]
 simp only[Option.bind_some,V.aC,V.toInt_int]
 rw[Ic]
theorem sm {e:Ex} (h:e.val 6=0):e.depth≤40∧e.size≤400∧e.wf 6=true:=by
 unfold Ex.val at h
 rw[ag (by omega)] at h
 split at h
 ·rename_i h1
  split at h
  ·rename_i U;exact ⟨h1.1,h1.2,U⟩
  ·omega
 ·omega
theorem Df {ks:List Ex}: ∀{k},k∈ks→k.size≤aS ks:=by
 induction ks with
 | nil=>intro k h;simp at h
 | cons a ks ih=>
  intro k h
  simp only[aS]
  rcases dx.1 h with rfl|h
  ·omega
  ·have:=ih h;omega
mutual
def Ex.cP:Ex→Bool
 | .node o _ ks=>if o=2∨o=7 then true else if o=4 then lJ ks else if o=5∨o=6 then ot ks else if o=8 then !(lJ ks) else false
def Ex.lJ:List Ex→Bool
 | []=>false
 | k::ks=>cP k||lJ ks
def Ex.ot:List Ex→Bool
 | []=>true
 | k::ks=>cP k&&ot ks
end
theorem Ie: ∀ks,lJ ks=ks.any cP
 | []=>by simp[lJ]
 | k::ks=>by simp[lJ,Ie ks]
theorem Ig: ∀ks,ot ks= !(ks.any fun k=> !(cP k))
 | []=>by simp[ot]
 | k::ks=>by simp[ot,Ig ks]
theorem aid {letters:Int} {ks:List Ex} (h:il letters ks=true): ∀k∈ks,k.wf letters=true:=by
 induction ks with
 | nil=>simp
 | cons a ks ih=>
  simp only[il,aO] at h
  intro k hk
  rcases dx.1 hk with rfl|hk
  ·exact h.1
  ·exact ih h.2 k hk
theorem gg {letters o l:Int} {ks:List Ex} (h:(Ex.node o l ks).wf letters=true):dz o l ks.length letters=true∧∀k∈ks,k.wf letters=true:=by
 simp only[Ex.wf,aO] at h
 exact ⟨h.1,aid h.2⟩
theorem aie {letters l n:Int} (h:dz 8 l n letters=true):n=1:=by
 simp[dz] at h;exact h.2
theorem aif (e:Ex) (h:e.Ok) (hs:e.size≤400):CC GU (b9 e [])=some [.int .i64 e.size]:=by
 obtain ⟨d,e1,e2⟩:=UI e h 400 (by omega) (by omega)
 refine aic ?_
 unfold Wh
 rw[e1,show min (e.size:Int) (400+1)=e.size by omega]
 simp
end Go.AM
set_option maxRecDepth 100000
namespace Go.AM
open Go.Proofs
noncomputable def Wi (C:ae) (aj ar:Int) (ai:List V) (w:List UInt8):Option (List V):=
 (C yC [.int .i64 aj,.int .i64 ar,.list aa ai]).bind fun r1=>
 bif !((V.nth r1 0).toBool) then
  some [.bool false]
 else
  (C G5 [.str w,.int .i64 6]).bind fun r2=>
  bif !((V.nth r2 0).toBool) then
  some [.bool false]
  else
  (C pg [.str w]).bind fun r3=>
  (C vB [.int .i64 0,.list aI ((V.nth r3 0).toList)]).bind fun r4=>
  (C mY [.str w,.int .i64 aj,.int .i64 ar,.list aa ai,.list aI ((V.nth r4 0).toList)]).bind fun r5=>
  bif decide (0<(((V.nth r5 0).toList).length:Int)) then
   (((V.nth r5 0).toList)[0]?).bind fun x6=>
   (da Tryz.prog aD ((V.nth r5 0).toList) [(0,0)]).bind fun x7=>
   (C yD [.list aI x7.toList,.int .i64 (w.length:Int)]).bind fun r8=>
   some [.bool ((V.nth r8 0).toBool)]
  else none
theorem aih {aj ar:Int} {ai:List V} {w:List UInt8} {r:Option (List V)} (h:Wi CC aj ar ai w=r):CC GY [.int .i64 aj,.int .i64 ar,.list aa ai,.str w]=r:=
 aY (key:=12) (L:=b6) (bs:=[]) (by kernel_rfl) ax (aX (by kernel_rfl) h)
end Go.AM
set_option maxRecDepth 100000
namespace Go.AM
open Go.Proofs Ex
theorem aii {w:List UInt8} {F:Nat} (hw:w.length≤2048) (hF:In w F):
  ∃a:Nat,CC VA [uV w F,.int .i64 ((w.length+1:Nat):Int)]=some [.int .i64 (a:Int)]∧a≤w.length+1∧∀i,F.testBit i=true→a≤i:=by
 obtain ⟨_,hc,a,rfl,h1,U⟩:=ag9 (m:=mW w) (F:=F) (nh hw)
  (P:=fun t z=> ∃a:Nat,z=(a:Int)∧a≤w.length+1∧∀i,i<t→F.testBit i=true→a≤i)
  (fun t z ht dj hP=>by
   obtain ⟨a,rfl,h1,U⟩:=hP
   refine ⟨_,ahz,_,rfl,by omega,fun i hi hb=> ?_⟩
   by_cases e:i=t
   ·subst e;omega
   ·have:=U i (by omega) hb;omega)
  (fun t z dj hP=>by
   obtain ⟨a,h,h1,U⟩:=hP
   refine ⟨a,h,h1,fun i hi hb=> ?_⟩
   have:i≠t:=by rintro rfl;rw[dj] at hb;cases hb
   exact U i (by omega) hb)
  ((w.length+1:Nat):Int) ⟨_,rfl,bV _,fun _ h=>by omega⟩
 exact ⟨a,hc,h1,fun i hi=>U i (by have:=hF i hi;have:= @C3 w;omega) hi⟩
theorem aij {w:List UInt8} {k0 k1:Int} {k2:List V} {a:Nat} (hw:w.length≤2048):
  ∀d c S,a≤c→c+d=w.length+1→(∀x,S.testBit x=true↔a≤x∧x<c)→
  ∃S':Nat,Loop (C7 CC w k0 k1 k2 (a:Int)) ((c:Int),bh (mW w) S)=some (((w.length+1:Nat):Int),false,bh (mW w) S')∧∀x,S'.testBit x=true↔a≤x∧x≤w.length:=by
 intro d
 induction d with
 | zero=>
  intro c S _ hc hS
  have hc:c=w.length+1:=by omega
  subst hc
  refine ⟨S,bj ?_,fun x=>(hS x).trans ⟨fun h=>by omega,fun h=>by omega⟩⟩
  simp only[C7,C6,un]
  rw[az,ah (by omega),cl (by omega)]
 | succ d ih=>
  intro c S ha hc hS
  have bM:C7 CC w k0 k1 k2 (a:Int) ((c:Int),bh (mW w) S)=some (.inl (((c+1:Nat):Int),bh (mW w) (S|||2^c))):=by
   simp only[C7,C6,un]
   rw[az,ag (by omega),N0 (pz (by omega)) (by omega)]
   simp only[Option.bind_some,V.aC,V.bS]
   rw[wrap64 (by omega) (by omega)]
   rfl
  rw[bW bM]
  refine ih (c+1) _ (by omega) (by omega) fun x=> ?_
  rw[zb,hS x,zc]
  omega
theorem aik {w:List UInt8} {A:Lg} {i S:Nat} {Rt:Nat→Option Nat} (hw:w.length≤2048) (hi:i≤w.length)
  (hS: ∀j,S.testBit j=true↔Pt w A i j) (hR: ∀j,i<j→j≤w.length→∃T:Nat,Rt j=some T∧∀x,T.testBit x=true↔Pt w (dH A) j x):
  ∃O:Nat,CC VC [uV w S,uV w (2^i),oV w Rt]=some [oV w Rt,uV w O]∧∀x,O.testBit x=true↔Pt w (dH A) i x:=by
 have Wj:In w S:=UM hS
 obtain ⟨_,hc,O,rfl,hO⟩:=ahd (m:=mW w) (F:=S) (nh hw)
  (P:=fun t a=> ∃O:Nat,a=(Rows (mW w) (w.length+1) Rt,bh (mW w) O)∧∀x,O.testBit x=true↔x=i∨∃j,j<t∧i<j∧S.testBit j=true∧Pt w (dH A) j x)
  (fun t a ht dj hP=>by
   obtain ⟨O,rfl,hO⟩:=hP
   have Ot:=Wj t dj
   have hit:=((hS t).1 dj).1
   by_cases Dg:O.testBit t=true
   ·refine ⟨(_,_),VU (S:=0) hw Ot (fun h=>by rw[Dg] at h;cases h) (fun _ _=>by simp),_,rfl,fun x=> ?_⟩
    rw[ag Dg,hO x]
    constructor
    ·rintro (h|⟨j,h1,U⟩)
     ·exact .inl h
     ·exact .inr ⟨j,by omega,U⟩
    ·rintro (h|⟨j,h1,U,h3,h4⟩)
     ·exact .inl h
     ·by_cases e:j=t
      ·subst e
       rcases (hO j).1 Dg with h|⟨j',g1,g2,g3,g4⟩
       ·omega
       ·exact .inr ⟨j',g1,g2,g3,NX g4 h4⟩
      ·exact .inr ⟨j,by omega,U,h3,h4⟩
   ·have bD: ¬t=i:=fun e=>Dg ((hO t).2 (.inl e))
    obtain ⟨T,q1,q2⟩:=hR t (by omega) Ot
    refine ⟨(_,_),VU (S:=T) hw Ot (fun _=>q1) (fun x hx=>UN q2 fun h=>by have:=h.1;omega),_,rfl,fun x=> ?_⟩
    rw[ah Dg,zb,hO x,q2 x]
    constructor
    ·rintro ((h|⟨j,h1,U⟩)|h)
     ·exact .inl h
     ·exact .inr ⟨j,by omega,U⟩
     ·exact .inr ⟨t,by omega,by omega,dj,h⟩
    ·rintro (h|⟨j,h1,U,h3,h4⟩)
     ·exact .inl (.inl h)
     ·by_cases e:j=t
      ·subst e;exact .inr h4
      ·exact .inl (.inr ⟨j,by omega,U,h3,h4⟩))
  (fun t a dj hP=>by
   obtain ⟨O,h,hO⟩:=hP
   refine ⟨O,h,fun x=>(hO x).trans ⟨?_,?_⟩⟩
   ·rintro (h|⟨j,h1,U⟩)
    ·exact .inl h
    ·exact .inr ⟨j,by omega,U⟩
   ·rintro (h|⟨j,h1,U,h3,h4⟩)
    ·exact .inl h
    ·have:j≠t:=by rintro rfl;rw[dj] at h3;cases h3
     exact .inr ⟨j,by omega,U,h3,h4⟩)
  (Rows (mW w) (w.length+1) Rt,bh (mW w) (2^i)) ⟨_,rfl,fun x=>by rw[zc];exact ⟨.inl,fun h=>by rcases h with h|⟨j,h,_⟩;exact h;omega⟩⟩
 refine ⟨O,hc,fun x=>(hO x).trans ?_⟩
 rw[af8]
 constructor
 ·rintro (h|⟨j,h1,U,h3,h4⟩)
  ·exact .inl ⟨h.symm,by omega⟩
  ·exact .inr ⟨j,U,(hS j).1 h3,h4⟩
 ·rintro (⟨h,_⟩|⟨j,U,h3,h4⟩)
  ·exact .inl h.symm
  ·have:=(hS j).2 h3
   exact .inr ⟨j,by have:=Wj j this;have:= @C3 w;omega,U,this,h4⟩
theorem ail {w:List UInt8} {A:Lg} {a Z:Nat} {R1:Nat→Option Nat} (hw:w.length≤2048) (ha:a≤w.length+1) (hZ: ∀x,Z.testBit x=true↔a≤x∧x≤w.length) (Ou:Ends w Z R1 A):
  ∀d c Rt,a≤c→c=a+d→c≤w.length+1→(∀j,c≤j→j≤w.length→∃T:Nat,Rt j=some T∧∀x,T.testBit x=true↔Pt w (dH A) j x)→
  ∃R',Loop (zl CC w (a:Int) (Rows (mW w) (w.length+1) R1)) ((c:Int)-1,Rows (mW w) (w.length+1) Rt)=some ((a:Int)-1,false,Rows (mW w) (w.length+1) R')∧
   ∀j,a≤j→j≤w.length→∃T:Nat,R' j=some T∧∀x,T.testBit x=true↔Pt w (dH A) j x:=by
 intro d
 induction d with
 | zero=>
  intro c Rt _ hc _ hR
  have hc:c=a:=by omega
  subst hc
  refine ⟨Rt,bj ?_,hR⟩
  simp only[zl,C8,un]
  rw[az,ah (by omega),cl (by omega)]
 | succ d ih=>
  intro c Rt hac hc hcn hR
  obtain ⟨i,rfl⟩: ∃i,c=i+1:=⟨c-1,by omega⟩
  have jF:i≤w.length:=by omega
  obtain ⟨S,g1,g2⟩:=Ou i ((hZ i).2 ⟨by omega,jF⟩)
  obtain ⟨O,c3,hO⟩:=aik hw jF g2 (Rt:=Rt) fun j h1 U=>hR j (by omega) U
  have bM:zl CC w (a:Int) (Rows (mW w) (w.length+1) R1) (((i+1:Nat):Int)-1,Rows (mW w) (w.length+1) Rt)=some (.inl ((i:Int)-1,Rows (mW w) (w.length+1) (upd Rt i O))):=by
   have e:((i+1:Nat):Int)-1=(i:Int):=by omega
   rw[e]
   simp only[zl,C8,un]
   rw[az,ag (by omega),tP hw]
   simp only[Option.bind_some,V.aC,V.bS]
   rw[N0 (pz jF) (by omega)]
   simp only[Option.bind_some,V.aC,V.bS,Nat.zero_or,ct,az,Int.toNat_natCast,kV,j9 (show i<w.length+1 by omega),qv (show i<w.length+1 by omega) g1]
   have t7:(0:Int)≤(i:Int):=by omega
   have t8:(i:Int)<((w.length+1:Nat):Int):=by omega
   simp only[t7,t8,cU]
   refine (congrArg (fun o=>Option.bind o _) c3).trans ?_
   simp only[Option.bind_some,ek,dK,V.aC,V.bS,kV,j9 (show i<w.length+1 by omega),vU,t7,t8,cU]
   rw[wrap64 (by omega) (by omega)]
  rw[bW bM]
  refine ih i _ (by omega) (by omega) (by omega) fun j h1 U=> ?_
  by_cases e:j=i
  ·subst e;exact ⟨O,HU,hO⟩
  ·rw[N5 e];exact hR j (by omega) U
theorem aim {w:List UInt8} {F:Nat} {k:Ex} (hw:w.length≤2048) (hF:In w F) (hk:qA w k):
  ∃R,CC G9 (.str w::b9 k [uV w F])=some [oV w R]∧Ends w F R (dH k.aL):=by
 obtain ⟨a,c1,ha,FX⟩:=aii hw hF
 obtain ⟨Z,c2,hZ⟩:=aij (k0:=k.op) (k1:=k.letter) (k2:=k.kids.map enc) (a:=a) hw (w.length+1-a) a 0 (bV _) (by omega) (fun x=>⟨fun h=>by simp at h,fun h=>by omega⟩)
 obtain ⟨R1,c3,Ou⟩:=hk Z fun x hx=>((hZ x).1 hx).2
 obtain ⟨R',c4,sk⟩:=ail hw ha hZ Ou (w.length+1-a) (w.length+1) (fun _=>none) ha (by omega) (bV _) (fun j h1 U=>by omega)
 refine ⟨R',ahV ?_,fun i hi=>sk i (FX i hi) (hF i hi)⟩
 unfold V4
 have e1:IntKind.wrap .i64 ((w.length:Int)+1)=((w.length+1:Nat):Int):=by rw[wrap64 (by omega) (by omega)];rfl
 rw[tP hw,e1]
 simp only[Option.bind_some,V.aC,V.bS]
 refine (congrArg (fun o=>Option.bind o _) c1).trans ?_
 simp only[Option.bind_some,V.aC,V.toInt_int]
 refine (congrArg (fun o=>Option.bind o _) c2).trans ?_
 simp only[Option.bind_some,un]
 refine (congrArg (fun o=>Option.bind o _) c3).trans ?_
 simp only[Option.bind_some,V.aC,V.bS,ct,az,ym,Int.toNat_natCast]
 rw[ag (by omega),ag (by omega),ag (by rw[oe];omega)]
 have e2:(w.length:Int)=((w.length+1:Nat):Int)-1:=by omega
 rw[Va (m:=mW w)]
 have c5:Loop (zl CC w (a:Int) (Rows (mW w) (w.length+1) R1)) ((w.length:Int),Rows (mW w) (w.length+1) fun _=>none)=some ((a:Int)-1,false,Rows (mW w) (w.length+1) R'):=by rw[e2];exact c4
 refine (congrArg (fun o=>Option.bind o _) c5).trans ?_
 rfl
theorem ain {w:List UInt8} (hw:w.length≤2048) (hl: ∀i,i<w.length→0≤dU w i): ∀e:Ex,e.Ok→e.wf 6=true→qA w e:=
 ind fun o l ks ih ay rY F hF=>by
  obtain ⟨hs,Ov⟩:=gg rY
  have hk: ∀k∈ks,qA w k:=fun k hk=>ih k hk (ay.og k hk) (Ov k hk)
  have hlen:=ay.len
  have nO:=po
  show∃R,CC mY [.str w,.int .i64 o,.int .i64 l,.list aa (ks.map enc),uV w F]=some [oV w R]∧Ends w F R (Ex.node o l ks).aL
  rw[kU]
  unfold dz at hs
  have e1:IntKind.wrap .i64 ((w.length:Int)+1)=((w.length+1:Nat):Int):=by rw[wrap64 (by omega) (by omega)];rfl
  have base:(o=1∨o=2∨o=3)→∃R,CC mY [.str w,.int .i64 o,.int .i64 l,.list aa (ks.map enc),uV w F]=some [oV w R]∧Ends w F R (dv o l (ks.map aL)):=by
   intro ho
   obtain ⟨R,hc,hR⟩:=ah3 (l:=l) (ks:=ks.map enc) hw hl ho hF
   have el:dv o l (ks.map aL)=dv o l []:=by
    funext v;unfold dv
    rcases ho with rfl|rfl|rfl<;>simp
   refine ⟨R,zi ?_,by rw[el];exact hR⟩
   unfold wi
   rw[e1]
   simp only[dD,ct,az,ym,Int.toNat_natCast]
   rw[ah (by omega),ah (by omega),ah (by omega),ah (by omega),ah (by omega),ag (by omega),ag (by omega),ag (by rw[oe];omega)]
   rw[Va (m:=mW w)]
   refine (congrArg (fun o=>Option.bind o _) hc).trans ?_
   simp only[Option.bind_some,ek,dK,V.aC,V.bS]
  by_cases h3:o=3
  ·exact base (by omega)
  rw[ah h3] at hs
  simp only[aO] at hs
  obtain ⟨_,hs⟩:=hs
  by_cases Wk:o=1∨o=2
  ·exact base (by omega)
  rw[ah Wk] at hs
  by_cases wk:o=7∨o=8
  ·rw[ag wk] at hs
   have hs:=iw hs
   obtain ⟨k,rfl⟩: ∃k,ks=[k]:=by
    match ks,hs with
    | [k],_=>exact ⟨k,rfl⟩
    | [],h=>simp at h
    | _::_::_,h=>simp at h;omega
   rcases wk with rfl|rfl
   ·obtain ⟨R,hc,hR⟩:=aim hw hF (hk k (by simp))
    refine ⟨R,zi ?_,by
     have:dv 7 l ([k].map aL)=dH k.aL:=by funext v;simp[dv,pq]
     rw[this];exact hR⟩
    unfold wi
    simp only[dD]
    rw[ah (by omega),ag trivial]
    simp only[cr,fp,List.getElem?_cons_zero,Option.bind_some,bz,bA,bB]
    refine (congrArg (fun o=>Option.bind o _) hc).trans ?_
    simp only[Option.bind_some,V.aC,V.bS]
   ·obtain ⟨R0,F0,Kn⟩:=hk k (by simp) F hF
    obtain ⟨R,hc,hR⟩:=ah4 hw hF F0 Kn
    refine ⟨R,zi ?_,by
     have:dv 8 l ([k].map aL)=fun v=> ¬k.aL v:=by funext v;simp[dv,pq]
     rw[this];exact hR⟩
    unfold wi
    simp only[dD]
    rw[ah (by omega),ah (by omega),ah (by omega),ah (by omega),ag trivial]
    simp only[cr,fp,List.getElem?_cons_zero,Option.bind_some,bz,bA,bB]
    refine (congrArg (fun o=>Option.bind o _) hc).trans ?_
    simp only[Option.bind_some,V.aC,V.bS]
  ·rw[ah wk] at hs
   obtain ⟨h4,h6,hn⟩:=iw hs
   match ks,hn,hk,hlen with
   | k::rest,hn,hk,hlen=>
    have mo:=hk k (by simp)
    have p9: ∀k'∈rest,qA w k':=fun k' h=>hk k' (by simp[h])
    have Ow:rest.length≤maxLen:=by simp at hlen;omega
    have Ox:o=4∨o=5∨o=6:=by omega
    rcases Ox with rfl|rfl|rfl
    ·obtain ⟨R,hc,hR⟩:=Wc (o:=4) (l:=l) hw hF Ow mo p9
     refine ⟨R,zi ?_,by
      have:dv 4 l ((k::rest).map aL)=(rest.map aL).foldl (comb 4) k.aL:=by
       funext v;refine propext ?_;rw[Wd];simp[dv]
      rw[this];exact hR⟩
     unfold wi
     simp only[dD]
     rw[ah (by omega),ah (by omega),ag trivial,ag trivial]
     refine (congrArg (fun o=>Option.bind o _) hc).trans ?_
     simp only[Option.bind_some,V.aC,V.bS]
    ·obtain ⟨R,hc,hR⟩:=ah8 hw hF Ow mo p9
     refine ⟨R,zi ?_,by
      have:dv 5 l ((k::rest).map aL)=tF ((k::rest).map aL):=by funext v;simp[dv]
      rw[this];exact hR⟩
     unfold wi
     simp only[dD]
     rw[ag trivial]
     refine (congrArg (fun o=>Option.bind o _) hc).trans ?_
     simp only[Option.bind_some,V.aC,V.bS]
    ·obtain ⟨R,hc,hR⟩:=Wc (o:=6) (l:=l) hw hF Ow mo p9
     refine ⟨R,zi ?_,by
      have:dv 6 l ((k::rest).map aL)=(rest.map aL).foldl (comb 6) k.aL:=by
       funext v;refine propext ?_;rw[We];simp[dv]
      rw[this];exact hR⟩
     unfold wi
     simp only[dD]
     rw[ah (by omega),ah (by omega),ah (by omega),ag trivial]
     refine (congrArg (fun o=>Option.bind o _) hc).trans ?_
     simp only[Option.bind_some,V.aC,V.bS]
noncomputable def zm (e:Ex) (w:List UInt8):Bool:= @decide (e.val 6=0∧mq w 6∧e.aL w) (Classical.propDecidable _)
theorem Ih {e:Ex} {w:List UInt8}:zm e w=true↔e.val 6=0∧mq w 6∧e.aL w:=by
 unfold zm
 exact ⟨fun h=> @iw _ (Classical.propDecidable _) h,fun h=> @eK _ (Classical.propDecidable _) h⟩
theorem aio (e:Ex) (h:e.Ok) (w:List UInt8):CC GY (b9 e [.str w])=some [.bool (zm e w)]:=by
 refine aih ?_
 unfold Wi
 refine (congrArg (fun o=>Option.bind o _) (Oq e h)).trans ?_
 simp only[Option.bind_some,V.aC,V.cQ,gd,az]
 by_cases h1:e.val 6=0
 ·rw[ag h1,agj]
  simp only[Option.bind_some,V.aC,V.cQ,az]
  by_cases U:mq w 6
  ·rw[ag U]
   have hw:=U.2.2.1
   have hl: ∀i,i<w.length→0≤dU w i:=fun i hi=>(U.2.2.2 i hi).1
   obtain ⟨R,hc,hR⟩:=ain hw hl e h (sm h1).2.2 (2^0) (fun i hi=>by rw[zc] at hi;omega)
   obtain ⟨S,g1,g2⟩:=hR 0 (zc.2 rfl)
   rw[tP hw]
   simp only[Option.bind_some,V.aC,V.bS]
   have ha:=N0 (m:=mW w) (S:=0) (i:=0) (by unfold mW;omega) (by omega)
   refine (congrArg (fun o=>Option.bind o _) ha).trans ?_
   simp only[Option.bind_some,V.aC,V.bS,Nat.zero_or]
   refine (congrArg (fun o=>Option.bind o _) hc).trans ?_
   simp only[Option.bind_some,V.aC,V.bS,kV,j9 (show 0<w.length+1 by omega),qv (show 0<w.length+1 by omega) g1]
   rw[ag (by omega),N3 (pz (bV _)) (by omega)]
   simp only[Option.bind_some,V.aC,V.cQ]
   congr 3
   rw[nB,g2,Ih]
   unfold Pt
   rw[af4]
   exact ⟨fun h=>⟨h1,U,h.2.2⟩,fun h=>⟨by omega,bV _,h.2.2⟩⟩
  ·rw[ah U]
   have:zm e w=false:=by rw[←Bool.not_eq_true,Ih];exact fun h=>U h.2.1
   rw[this]
 ·rw[ah h1]
  have:zm e w=false:=by rw[←Bool.not_eq_true,Ih];exact fun h=>h1 h.1
  rw[this]
end Go.AM
set_option maxRecDepth 100000
namespace Go.AM
open Go.Proofs
noncomputable abbrev Wl:Code:=cg Tryz.prog (au.aP 39)
noncomputable def Dh (C:ae) (t19:List V) (t20 t21:Int) {β:Type} (kn:Int→Option β) (kr:((Bool) ⊕ (Int × Bool))→Option β):Option β:=
 bif decide ((t21:Int)<t20) then
  (idx t19 t21).bind fun x2=>
  (C kP [.int .i64 ((x2.cell 0).toInt),.int .i64 ((x2.cell 1).toInt),.list aa ((x2.cell 2).toList)]).bind fun r3=>
  bif !((V.nth r3 0).toBool) then
  kr (.inl false)
  else
  kn (IntKind.wrap .i64 (t21+1))
 else
  kr (.inr (t21,decide ((t21:Int)<t20)))
noncomputable def tQ (C:ae) (t19:List V) (t20:Int):(Int)→Option ((Int) ⊕ ((Bool) ⊕ (Int × Bool))):=fun t21=>Dh C t19 t20 t21 (fun y=>some (.inl y)) (fun r=>some (.inr r))
noncomputable def Wm (C:ae):bZ:=fun β n ds k=>
 bif Nat.beq n 161 then bK Mv [false,false,true] [[0],[1,2,0,0]] (@Dh C) ds k else
 none
abbrev aip (C:ae) (b:bX):Prop:=bY Tryz.prog au C (Wm C) 39 (cj Tryz.prog (au.aP 39)) (au.sin 39).ba.length b
theorem aiq (C:ae):aip C (.loop (aw [1,0,1,0,1,1,1,1,1,0,0,1,0,0] Wl)):=
 bN Mv [false,false,true] [[0],[1,2,0,0]] (@Dh C) (by kernel_rfl) (a8 (bs:=[]) (by kernel_rfl) ax) (fun ds=>by kernel_rfl) (fun i x=>by kernel_rfl) (fun i x β k=>by kernel_rfl) (fun β ds k=>by kernel_rfl)
noncomputable def Wn (C:ae) (aj ar:Int) (ai:List V):Option (List V):=
 bif (aj:Int)==2 then
  bif (aj:Int)==2 then
  some [.bool true]
  else
  bif (aj:Int)==4 then
   (C Hu [.list aa ai]).bind fun r1=>
   some [.bool ((V.nth r1 0).toBool)]
  else
   bif (aj:Int)==5 then
   bif (aj:Int)==5 then
    (Loop (tQ C ai (ai.length:Int)) 0).bind (cu (fun (mn:Bool)=>
     some [.bool mn]) (un fun (ik:Int) (ml:Bool)=>
     some [.bool true]))
   else
    bif (aj:Int)==8 then
    bif ((ai.length:Int):Int)==1 then
     (ai[0]?).bind fun x7=>
     (C kP [.int .i64 ((x7.cell 0).toInt),.int .i64 ((x7.cell 1).toInt),.list aa ((x7.cell 2).toList)]).bind fun r8=>
     some [.bool (!((V.nth r8 0).toBool))]
    else
     some [.bool false]
    else
    some [.bool false]
   else
   bif (aj:Int)==6 then
    (Loop (tQ C ai (ai.length:Int)) 0).bind (cu (fun (oj:Bool)=>
     some [.bool oj]) (un fun (vP:Int) (tE:Bool)=>
     some [.bool true]))
   else
    bif (aj:Int)==8 then
    bif ((ai.length:Int):Int)==1 then
     (ai[0]?).bind fun sg=>
     (C kP [.int .i64 ((sg.cell 0).toInt),.int .i64 ((sg.cell 1).toInt),.list aa ((sg.cell 2).toList)]).bind fun gP=>
     some [.bool (!((V.nth gP 0).toBool))]
    else
     some [.bool false]
    else
    some [.bool false]
 else
  bif (aj:Int)==7 then
  some [.bool true]
  else
  bif (aj:Int)==4 then
   (C Hu [.list aa ai]).bind fun lK=>
   some [.bool ((V.nth lK 0).toBool)]
  else
   bif (aj:Int)==5 then
   bif (aj:Int)==5 then
    (Loop (tQ C ai (ai.length:Int)) 0).bind (cu (fun (yZ:Bool)=>
     some [.bool yZ]) (un fun (Ul:Int) (aen:Bool)=>
     some [.bool true]))
   else
    bif (aj:Int)==8 then
    bif ((ai.length:Int):Int)==1 then
     (ai[0]?).bind fun wh=>
     (C kP [.int .i64 ((wh.cell 0).toInt),.int .i64 ((wh.cell 1).toInt),.list aa ((wh.cell 2).toList)]).bind fun eV=>
     some [.bool (!((V.nth eV 0).toBool))]
    else
     some [.bool false]
    else
    some [.bool false]
   else
   bif (aj:Int)==6 then
    (Loop (tQ C ai (ai.length:Int)) 0).bind (cu (fun (Un:Bool)=>
     some [.bool Un]) (un fun (NR:Int) (NS:Bool)=>
     some [.bool true]))
   else
    bif (aj:Int)==8 then
    bif ((ai.length:Int):Int)==1 then
     (ai[0]?).bind fun iO=>
     (C kP [.int .i64 ((iO.cell 0).toInt),.int .i64 ((iO.cell 1).toInt),.list aa ((iO.cell 2).toList)]).bind fun Oy=>
     some [.bool (!((V.nth Oy 0).toBool))]
    else
     some [.bool false]
    else
    some [.bool false]
theorem air {aj ar:Int} {ai:List V} {r:Option (List V)} (h:Wn CC aj ar ai=r):CC kP [.int .i64 aj,.int .i64 ar,.list aa ai]=r:=
 aY (key:=39) (L:=Wm CC) (bs:=[.loop (aw [1,0,1,0,1,1,1,1,1,0,0,1,0,0] Wl)]) (by kernel_rfl) (bq (aiq CC) ax) (aX (by kernel_rfl) h)
noncomputable def Wo (C:ae) (s:List V):Option (List V):=
 (C Hv [.list aa s]).bind fun r1=>
 some [.bool (decide ((((V.nth r1 0).toInt):Int)≥0))]
theorem ais {s:List V} {r:Option (List V)} (h:Wo CC s=r):CC Hu [.list aa s]=r:=
 aY (key:=145) (L:=b6) (bs:=[]) (by kernel_rfl) ax (aX (by kernel_rfl) h)
noncomputable abbrev Wp:Code:=cg Tryz.prog (au.aP 146)
noncomputable def Di (C:ae) (s:List V) (t7 t8:Int) {β:Type} (kn:Int→Option β) (kr:((Int) ⊕ (Int × Bool))→Option β):Option β:=
 bif decide ((t8:Int)<t7) then
  (idx s t8).bind fun x1=>
  (C kP [.int .i64 ((x1.cell 0).toInt),.int .i64 ((x1.cell 1).toInt),.list aa ((x1.cell 2).toList)]).bind fun r2=>
  bif (V.nth r2 0).toBool then
  kr (.inl t8)
  else
  kn (IntKind.wrap .i64 (t8+1))
 else
  kr (.inr (t8,decide ((t8:Int)<t7)))
noncomputable def Ii (C:ae) (s:List V) (t7:Int):(Int)→Option ((Int) ⊕ ((Int) ⊕ (Int × Bool))):=fun t8=>Di C s t7 t8 (fun y=>some (.inl y)) (fun r=>some (.inr r))
noncomputable def Wq (C:ae):bZ:=fun β n ds k=>
 bif Nat.beq n 33 then bK NP [false,false,true] [[0],[1,2,0,0]] (@Di C) ds k else
 none
abbrev ait (C:ae) (b:bX):Prop:=bY Tryz.prog au C (Wq C) 146 (cj Tryz.prog (au.aP 146)) (au.sin 146).ba.length b
theorem aiu (C:ae):ait C (.loop (aw [1,0,1,0,0] Wp)):=
 bN NP [false,false,true] [[0],[1,2,0,0]] (@Di C) (by kernel_rfl) (a8 (bs:=[]) (by kernel_rfl) ax) (fun ds=>by kernel_rfl) (fun i x=>by kernel_rfl) (fun i x β k=>by kernel_rfl) (fun β ds k=>by kernel_rfl)
noncomputable def Oz (C:ae) (s:List V):Option (List V):=
 (Loop (Ii C s (s.length:Int)) 0).bind (cu (fun (jI:Int)=>
  some [.int .i64 jI]) (un fun (mn:Int) (ik:Bool)=>
  some [.int .i64 (-1)]))
theorem Wr {s:List V} {r:Option (List V)} (h:Oz CC s=r):CC Hv [.list aa s]=r:=
 aY (key:=146) (L:=Wq CC) (bs:=[.loop (aw [1,0,1,0,0] Wp)]) (by kernel_rfl) (bq (aiu CC) ax) (aX (by kernel_rfl) h)
end Go.AM
set_option maxRecDepth 100000
namespace Go.AM
open Go.Proofs Ex
theorem aiv {ks:List Ex} (hlen:ks.length≤maxLen) (ih: ∀k∈ks,CC kP (b9 k [])=some [.bool k.cP]):CC Hu [.list aa (ks.map enc)]=some [.bool (lJ ks)]:=by
 have:=po
 refine ais ?_
 unfold Wo
 have hl:=Wf (step:=Ii CC (ks.map enc) ((ks.map enc).length:Int)) (ks:=ks) (fun i=>(i:Int)) cP (fun i=> .inl (i:Int)) (.inr (((ks.length:Nat):Int),false))
  (fun pre k aJ br=>by
   have cb:pre.length<ks.length:=by rw[br];simp
   have hm:k∈ks:=by rw[br];simp
   simp only[Ii,Di,bt,az]
   rw[ag (by omega),show idx (ks.map enc) (pre.length:Int)=some k.enc by rw[br];exact jJ _ _ _]
   simp only[Option.bind_some,bz,bA,bB]
   rw[ih k hm]
   simp only[Option.bind_some,V.aC,V.cQ]
   rw[wrap64 (by omega) (by omega)]
   cases k.cP<;>simp)
  (by
   simp only[Ii,Di,bt,az]
   rw[ah (by omega)]
   simp) ks [] rfl
 simp only[List.length_nil,Int.ofNat_zero,Int.natCast_zero] at hl
 rcases hl with ⟨h1,i,U⟩|⟨h1,U⟩
 ·have hi:CC Hv [.list aa (ks.map enc)]=some [.int .i64 (i:Int)]:=by
   refine Wr ?_
   unfold Oz
   erw [U];rfl
  rw[hi,Ie,h1]
  simp
 ·have hi:CC Hv [.list aa (ks.map enc)]=some [.int .i64 (-1)]:=by
   refine Wr ?_
   unfold Oz
   erw [U];rfl
  rw[hi,Ie,h1]
  simp
theorem aiw {letters:Int}: ∀e:Ex,e.Ok→e.wf letters=true→CC kP (b9 e [])=some [.bool e.cP]:=
 ind fun o l ks ih ay rY=>by
  have:=po
  have hlen:=ay.len
  obtain ⟨w1,w2⟩:=gg rY
  have lA: ∀k∈ks,CC kP (b9 k [])=some [.bool k.cP]:=fun k hk=>ih k hk (ay.og k hk) (w2 k hk)
  refine air ?_
  have jl:(Loop (tQ CC (ks.map enc) ((ks.map enc).length:Int)) 0).bind (cu (fun (t:Bool)=>some [V.bool t]) (un fun (_:Int) (_:Bool)=>some [V.bool true]))=some [.bool (ot ks)]:=by
   have hl:=Wf (step:=tQ CC (ks.map enc) ((ks.map enc).length:Int)) (ks:=ks) (fun i=>(i:Int)) (fun k=> !(cP k)) (fun _=> .inl false) (.inr (((ks.length:Nat):Int),false))
    (fun pre k aJ br=>by
     have cb:pre.length<ks.length:=by rw[br];simp
     have hm:k∈ks:=by rw[br];simp
     simp only[tQ,Dh,bt,az]
     rw[ag (by omega),show idx (ks.map enc) (pre.length:Int)=some k.enc by rw[br];exact jJ _ _ _]
     simp only[Option.bind_some,bz,bA,bB]
     rw[lA k hm]
     simp only[Option.bind_some,V.aC,V.cQ]
     rw[wrap64 (by omega) (by omega)]
     cases k.cP<;>simp)
    (by
     simp only[tQ,Dh,bt,az]
     rw[ah (by omega)]
     simp) ks [] rfl
   simp only[List.length_nil,Int.ofNat_zero,Int.natCast_zero] at hl
   rcases hl with ⟨h1,i,U⟩|⟨h1,U⟩
   ·erw [U];rw[Ig,h1];rfl
   ·erw [U];rw[Ig,h1];rfl
  unfold Wn
  simp only[Ex.op,Ex.letter,Ex.kids]
  rw[jl,aiv hlen lA]
  simp only[cP]
  rcases Cj o with rfl|rfl|rfl|rfl|rfl|rfl|rfl|rfl|ho
  case inr.inr.inr.inr.inr.inr.inr.inr=>
   have n2:o≠2:=by omega
   have n4:o≠4:=by omega
   have n5:o≠5:=by omega
   have n6:o≠6:=by omega
   have n7:o≠7:=by omega
   have n8:o≠8:=by omega
   simp[n2,n4,n5,n6,n7,n8]
  case inr.inr.inr.inr.inr.inr.inr.inl=>
   have h1:=aie w1
   match ks,h1,lA with
   | [k],_,lA=>
    have:=lA k (by simp)
    simp only[cr,fp,List.length_singleton,List.getElem?_cons_zero,Option.bind_some,bz,bA,bB]
    rw[this]
    simp[lJ]
  all_goals simp
end Go.AM
set_option maxRecDepth 100000
namespace Go.AM
open Go.Proofs
noncomputable def Ws (C:ae) (qB qC:Int) (sn:List V) (qD qE:Int) (sq:List V):Option (List V):=
 bif (qB:Int) != qD then
  (C yL [.int .i64 qB,.int .i64 qD]).bind fun r1=>
  some [.int .i64 ((V.nth r1 0).toInt)]
 else
  bif (qC:Int) != qE then
  (C yL [.int .i64 qC,.int .i64 qE]).bind fun r2=>
  some [.int .i64 ((V.nth r2 0).toInt)]
  else
  (C Hi [.list aa sn,.list aa sq]).bind fun r3=>
  some [.int .i64 ((V.nth r3 0).toInt)]
theorem aix {qB qC:Int} {sn:List V} {qD qE:Int} {sq:List V} {r:Option (List V)} (h:Ws CC qB qC sn qD qE sq=r):CC bp [.int .i64 qB,.int .i64 qC,.list aa sn,.int .i64 qD,.int .i64 qE,.list aa sq]=r:=
 aY (key:=85) (L:=b6) (bs:=[]) (by kernel_rfl) ax (aX (by kernel_rfl) h)
noncomputable abbrev Wt:Code:=cg Tryz.prog (au.aP 92)
noncomputable def wm (C:ae) (s1 s2 t11:List V) (t12 t13:Int) {β:Type} (kn:Int→Option β) (kr:((Int) ⊕ (Int × Bool))→Option β):Option β:=
 bif decide ((t13:Int)<t12) then
  (idx t11 t13).bind fun x1=>
  bif decide ((t13:Int)≥(s2.length:Int)) then
  kr (.inl 1)
  else
  (idx s2 t13).bind fun x2=>
  (C bp [.int .i64 ((x1.cell 0).toInt),.int .i64 ((x1.cell 1).toInt),.list aa ((x1.cell 2).toList),.int .i64 ((x2.cell 0).toInt),.int .i64 ((x2.cell 1).toInt),.list aa ((x2.cell 2).toList)]).bind fun r3=>
  bif (((V.nth r3 0).toInt):Int) != 0 then
   kr (.inl ((V.nth r3 0).toInt))
  else
   kn (IntKind.wrap .i64 (t13+1))
 else
  kr (.inr (t13,decide ((t13:Int)<t12)))
noncomputable def tR (C:ae) (s1 s2 t11:List V) (t12:Int):(Int)→Option ((Int) ⊕ ((Int) ⊕ (Int × Bool))):=fun t13=>wm C s1 s2 t11 t12 t13 (fun y=>some (.inl y)) (fun r=>some (.inr r))
noncomputable def Wu (C:ae):bZ:=fun β n ds k=>
 bif Nat.beq n 33 then bK M1 [false,false,false,false,true] [[0],[1,2,3,4,0,0]] (@wm C) ds k else
 none
abbrev aiy (C:ae) (b:bX):Prop:=bY Tryz.prog au C (Wu C) 92 (cj Tryz.prog (au.aP 92)) (au.sin 92).ba.length b
theorem aiz (C:ae):aiy C (.loop (aw [1,0,1,0,0] Wt)):=
 bN M1 [false,false,false,false,true] [[0],[1,2,3,4,0,0]] (@wm C) (by kernel_rfl) (a8 (bs:=[]) (by kernel_rfl) ax) (fun ds=>by kernel_rfl) (fun i x=>by kernel_rfl) (fun i x β k=>by kernel_rfl) (fun β ds k=>by kernel_rfl)
noncomputable def Wv (C:ae) (s1 s2:List V):Option (List V):=
 (Loop (tR C s1 s2 s1 (s1.length:Int)) 0).bind (cu (fun (mn:Int)=>
  some [.int .i64 mn]) (un fun (ik:Int) (ml:Bool)=>
  bif decide (((s1.length:Int):Int)<(s2.length:Int)) then
   some [.int .i64 (-1)]
  else
   some [.int .i64 0]))
theorem aiA {s1 s2:List V} {r:Option (List V)} (h:Wv CC s1 s2=r):CC Hi [.list aa s1,.list aa s2]=r:=
 aY (key:=92) (L:=Wu CC) (bs:=[.loop (aw [1,0,1,0,0] Wt)]) (by kernel_rfl) (bq (aiz CC) ax) (aX (by kernel_rfl) h)
noncomputable def Ww (C:ae) (x y:Int):Option (List V):=
 (C BZ [.int .i64 x]).bind fun r1=>
 (C BZ [.int .i64 y]).bind fun r2=>
 bif (V.nth r1 0).toBool then
  bif (V.nth r2 0).toBool then
  some [.int .i64 0]
  else
  some [.int .i64 (-1)]
 else
  bif (V.nth r2 0).toBool then
  some [.int .i64 1]
  else
  bif decide ((x:Int)<y) then
   some [.int .i64 (-1)]
  else
   bif decide ((x:Int)>y) then
   some [.int .i64 1]
   else
   some [.int .i64 0]
theorem aiB {x y:Int} {r:Option (List V)} (h:Ww CC x y=r):CC yL [.int .i64 x,.int .i64 y]=r:=
 aY (key:=91) (L:=b6) (bs:=[]) (by kernel_rfl) ax (aX (by kernel_rfl) h)
noncomputable def Wx (C:ae) (x:Int):Option (List V):=
 some [.bool ((x:Int) != x)]
theorem aiC {x:Int} {r:Option (List V)} (h:Wx CC x=r):CC BZ [.int .i64 x]=r:=
 aY (key:=103) (L:=b6) (bs:=[]) (by kernel_rfl) ax (aX (by kernel_rfl) h)
end Go.AM
set_option maxRecDepth 100000
namespace Go.AM
open Go.Proofs Ex
def ju (less:Bool):Int:=if less then-1 else 1
mutual
def Ex.cmp:Ex→Ex→Int
 | .node o l ks,e=>if o≠e.op then ju (decide (o<e.op)) else if l≠e.letter then ju (decide (l<e.letter)) else eH ks e.kids
def Ex.eH:List Ex→List Ex→Int
 | [],[]=>0
 | [],_::_=> -1
 | _::_,[]=>1
 | k::ks,k'::cy=>if cmp k k'≠0 then cmp k k' else eH ks cy
end
theorem zn (o l o' l':Int) (ks cy:List Ex):cmp (.node o l ks) (.node o' l' cy)=if o≠o' then ju (decide (o<o')) else if l≠l' then ju (decide (l<l')) else eH ks cy:=by
 rw[cmp];rfl
theorem Wy (b:Bool):ju b= -1∨ju b=1:=by cases b<;>simp[ju]
theorem aiD (ks:List Ex) (ih: ∀k∈ks,cmp k k=0):eH ks ks=0:=by
 induction ks with
 | nil=>simp[eH]
 | cons k ks rv=>simp[eH,ih k (by simp),rv fun k hk=>ih k (by simp[hk])]
theorem Dj: ∀e:Ex,cmp e e=0:=ind fun o l ks ih=>by
 rw[zn];simp[aiD ks ih]
theorem Wz {a b:Int} (h:a≠b):ju (decide (b<a))= -ju (decide (a<b)):=by
 by_cases h1:a<b
 ·have: ¬b<a:=by omega
  simp[ju,h1,this]
 ·have:b<a:=by omega
  simp[ju,h1,this]
theorem aiE (ks:List Ex) (ih: ∀k∈ks,∀e,cmp e k= -cmp k e): ∀cy,eH cy ks= -eH ks cy:=by
 induction ks with
 | nil=>intro cy;cases cy<;>simp[eH]
 | cons k ks rv=>
  intro cy
  cases cy with
  | nil=>simp[eH]
  | cons k' cy=>
   simp only[eH,ih k (by simp) k',rv (fun k hk=>ih k (by simp[hk])) cy]
   by_cases h:cmp k k'=0
   ·simp[h]
   ·have: -cmp k k'≠0:=by omega
    simp[h,this]
theorem tS: ∀e e':Ex,cmp e' e= -cmp e e':=
 ind fun o l ks ih e'=>by
  obtain ⟨o',l',cy⟩:=e'
  rw[zn,zn]
  by_cases h1:o=o'
  ·subst h1
   by_cases U:l=l'
   ·subst U
    simp[aiE ks ih]
   ·have h2':l'≠l:=fun e=>U e.symm
    simp only[ne_eq,oL,fS,U,h2',Aj,cU];exact Wz U
  ·have fK:o'≠o:=fun e=>h1 e.symm
   simp only[ne_eq,h1,fK,Aj,cU];exact Wz h1
theorem aiF (ks:List Ex) (ih: ∀k∈ks,∀e,cmp k e=0→k=e): ∀cy,eH ks cy=0→ks=cy:=by
 induction ks with
 | nil=>intro cy h;cases cy<;>simp[eH] at h⊢
 | cons k ks rv=>
  intro cy h
  cases cy with
  | nil=>simp[eH] at h
  | cons k' cy=>
   simp only[eH] at h
   by_cases h1:cmp k k'=0
   ·rw[ih k (by simp) k' h1,rv (fun k hk=>ih k (by simp[hk])) cy (by simpa[h1] using h)]
   ·simp[h1] at h
theorem wo: ∀e e':Ex,cmp e e'=0→e=e':=
 ind fun o l ks ih e' h=>by
  obtain ⟨o',l',cy⟩:=e'
  rw[zn] at h
  have s1:=Wy (decide (o<o'))
  have s2:=Wy (decide (l<l'))
  by_cases h1:o=o'
  ·by_cases U:l=l'
   ·rw[h1,U,aiF ks ih cy (by simpa[h1,U] using h)]
   ·have bD:ju (decide (l<l'))≠0:=by omega
    rw[ah (by simp[h1]),ag U] at h
    exact absurd h bD
  ·have bD:ju (decide (o<o'))≠0:=by omega
   rw[ag h1] at h
   exact absurd h bD
theorem aiG (a:List Ex) (ih: ∀k∈a,∀b c,cmp k b≤0→cmp b c≤0→cmp k c≤0): ∀b c,eH a b≤0→eH b c≤0→eH a c≤0:=by
 induction a with
 | nil=>intro b c _ _;cases c<;>simp[eH]
 | cons x a rv=>
  intro b c h1 U
  cases b with
  | nil=>simp[eH] at h1
  | cons y b=>
   cases c with
   | nil=>simp[eH] at U
   | cons z c=>
    simp only[eH] at h1 U⊢
    have GD:cmp x y≤0:=by by_cases h:cmp x y=0<;>simp[h] at h1⊢;exact h1
    have hyz:cmp y z≤0:=by by_cases h:cmp y z=0<;>simp[h] at U⊢;exact U
    have hxz:=ih x (by simp) y z GD hyz
    by_cases h:cmp x z=0
    ·have:=wo x z h
     subst this
     have h3:=tS x y
     have h4:cmp x y=0:=by omega
     have h5:cmp y x=0:=by omega
     simp only[h,ne_eq,oL,fS]
     simp only[h4,h5,ne_eq,oL,fS] at h1 U
     exact rv (fun k hk=>ih k (by simp[hk])) b c h1 U
    ·simp[h];exact hxz
theorem tT {x y:Int}:ju (decide (x<y))≤0↔x<y:=by
 by_cases h:x<y
 ·simp[ju,h]
 ·simp[ju,h]
theorem OA: ∀a b c:Ex,cmp a b≤0→cmp b c≤0→cmp a c≤0:=
 ind fun o l ks ih b c h1 U=>by
  obtain ⟨o',l',cy⟩:=b
  obtain ⟨OB,ru,apj⟩:=c
  rw[zn] at h1 U⊢
  by_cases e1:o=o'
  ·subst e1
   by_cases e2:o=OB
   ·subst e2
    simp only[ne_eq,oL,fS] at h1 U⊢
    by_cases e3:l=l'
    ·subst e3
     by_cases e4:l=ru
     ·subst e4
      simp only[ne_eq,oL,fS] at h1 U⊢
      exact aiG ks ih _ _ h1 U
     ·simp only[ne_eq,e4,Aj,cU] at U⊢
      exact U
    ·rw[ag e3,tT] at h1
     by_cases e5:l'=ru
     ·subst e5
      rw[ag e3,tT]
      exact h1
     ·rw[ag e5,tT] at U
      rw[ag (show l≠ru by omega),tT]
      omega
   ·simp only[ne_eq,e2,Aj,cU] at U⊢
    exact U
  ·rw[ag e1,tT] at h1
   by_cases e5:o'=OB
   ·subst e5
    rw[ag e1,tT]
    exact h1
   ·rw[ag e5,tT] at U
    rw[ag (show o≠OB by omega),tT]
    omega
theorem aiH (x y:Int):CC yL [.int .i64 x,.int .i64 y]=some [.int .i64 (if x<y then-1 else if y<x then 1 else 0)]:=by
 refine aiB ?_
 unfold Ww
 have h: ∀z:Int,CC BZ [.int .i64 z]=some [.bool false]:=fun z=>aiC (by simp[Wx])
 rw[h,h]
 by_cases h1:x<y
 ·simp[h1]
 ·by_cases U:y<x
  ·simp[h1,U]
  ·simp[h1,U]
theorem WA {x y:Int} (h:x≠y):CC yL [.int .i64 x,.int .i64 y]=some [.int .i64 (ju (decide (x<y)))]:=by
 rw[aiH]
 by_cases h1:x<y
 ·simp[ju,h1]
 ·simp[ju,h1,show y<x by omega]
theorem aiI {ks cy:List Ex} (hlen:ks.length≤maxLen) (ih: ∀k∈ks,∀e:Ex,e.Ok→CC bp (b9 k (b9 e []))=some [.int .i64 (cmp k e)]) (dt: ∀k∈cy,Ex.Ok k):
  ∀(aJ pre sr Dk:List Ex),ks=pre++aJ→cy=Dk++sr→pre.length=Dk.length→
  (∃c,Loop (tR CC (ks.map enc) (cy.map enc) (ks.map enc) ((ks.map enc).length:Int)) ((pre.length:Nat):Int)=some (.inl c)∧eH aJ sr=c)∨
  (∃i b,Loop (tR CC (ks.map enc) (cy.map enc) (ks.map enc) ((ks.map enc).length:Int)) ((pre.length:Nat):Int)=some (.inr (i,b))∧eH aJ sr=if ks.length<cy.length then-1 else 0):=by
 intro aJ
 induction aJ with
 | nil=>
  intro pre sr Dk br tU wq
  subst br
  refine .inr ⟨((pre.length:Nat):Int),false,bj ?_,?_⟩
  ·simp only[tR,wm,dy,bt,az]
   rw[ah (by omega)]
   simp
  ·cases sr with
   | nil=>simp[eH,tU,wq]
   | cons a l=>simp[eH,tU,wq]
 | cons k aJ gN=>
  intro pre sr Dk br tU wq
  have cb:pre.length<ks.length:=by rw[br];simp
  have:=po
  have cC:idx (ks.map enc) (pre.length:Int)=some k.enc:=by rw[br];exact jJ _ _ _
  cases sr with
  | nil=>
   refine .inl ⟨1,bj ?_,by simp[eH]⟩
   have hl:cy.length=pre.length:=by rw[tU,wq];simp
   simp only[tR,wm,bt,az]
   rw[ag (by omega),cC]
   simp only[Option.bind_some]
   rw[ag (by omega)]
  | cons k' sr=>
   have hl:pre.length<cy.length:=by rw[tU,wq];simp
   have WB:idx (cy.map enc) (pre.length:Int)=some k'.enc:=by rw[tU,wq];exact jJ _ _ _
   have e1:=ih k (by rw[br];simp) k' (dt k' (by rw[tU];simp))
   by_cases hc:cmp k k'=0
   ·have e7:tR CC (ks.map enc) (cy.map enc) (ks.map enc) ((ks.map enc).length:Int) ((pre.length:Nat):Int)=some (.inl (((pre++[k]).length:Nat):Int)):=by
     simp only[tR,wm,bt,az]
     rw[ag (by omega),cC]
     simp only[Option.bind_some]
     rw[ah (by omega),WB]
     simp only[Option.bind_some,bz,bA,bB]
     rw[e1,hc]
     simp only[Option.bind_some,V.aC,V.toInt_int,jo,cU]
     rw[wrap64 (by omega) (by omega)]
     simp
    rw[bW e7]
    simp only[eH,hc,ne_eq,oL,fS]
    exact gN (pre++[k]) sr (Dk++[k']) (by rw[br];simp) (by rw[tU];simp) (by simp[wq])
   ·refine .inl ⟨cmp k k',bj ?_,by simp[eH,hc]⟩
    simp only[tR,wm,bt,az]
    rw[ag (by omega),cC]
    simp only[Option.bind_some]
    rw[ah (by omega),WB]
    simp only[Option.bind_some,bz,bA,bB]
    rw[e1]
    simp only[Option.bind_some,V.aC,V.toInt_int,jo,ah hc]
theorem WC: ∀a:Ex,a.Ok→∀b:Ex,b.Ok→CC bp (b9 a (b9 b []))=some [.int .i64 (cmp a b)]:=
 ind fun o l ks ih ay b hb=>by
  obtain ⟨o',l',cy⟩:=b
  refine aix ?_
  unfold Ws
  rw[zn]
  simp only[Ex.op,Ex.letter,Ex.kids,jo]
  by_cases h1:o=o'
  ·by_cases U:l=l'
   ·rw[ag h1,ag U,ah (by simp[h1]),ah (by simp[U])]
    have hcf:CC Hi [.list aa (ks.map enc),.list aa (cy.map enc)]=some [.int .i64 (eH ks cy)]:=by
     refine aiA ?_
     unfold Wv
     rcases aiI ay.len (fun k hk e he=>ih k hk (ay.og k hk) e he) hb.og ks [] cy [] rfl rfl rfl with ⟨c,q1,q2⟩|⟨i,b,q1,q2⟩
     ·simp only[List.length_nil,Int.ofNat_zero,Int.natCast_zero] at q1
      erw [q1];rw[q2];rfl
     ·simp only[List.length_nil,Int.ofNat_zero,Int.natCast_zero] at q1
      erw [q1];rw[q2]
      simp only[Option.bind_some,cu,un,bt,az]
      by_cases hl:ks.length<cy.length
      ·rw[ag (by omega),ag hl]
      ·rw[ah (by omega),ah hl]
    rw[hcf]
    simp
   ·rw[ag h1,ah U,ah (by simp[h1]),ag U,WA U]
    simp
  ·rw[ah h1,ag h1,WA h1]
   simp
def bm:Ex:= .node 0 0 []
def iP (l:List Ex) (x:Ex):Nat→Nat
 | 0=>0
 | k+1=>if cmp x (l.getD k bm)<0 then iP l x k else k+1
def gh (l:List Ex) (x:Ex):List Ex:=
 let k:=iP l x l.length
 if 0<k∧cmp (l.getD (k-1) bm) x=0 then l else l.take k++x::l.drop k
theorem OC (l:List Ex) (x:Ex): ∀k,iP l x k≤k
 | 0=>bV _
 | k+1=>by
  unfold iP;split
  ·exact Nat.le_succ_of_le (OC l x k)
  ·exact bV _
theorem Ij {l:List Ex} (h: ∀k∈l,k.Ok) {i:Nat} (hi:i<l.length):(l.getD i bm).Ok:=by
 have e:l.getD i bm=l[i]:=by simp[hi]
 rw[e];exact h _ (List.getElem_mem hi)
def bG (op:Int) (l:List Ex):List Ex:=l.flatMap fun k=>if k.op=op then k.kids else [k]
def univ (e:Ex):Bool:=decide (e.op=8∧e.kids.length=1∧(e.kids.getD 0 bm).op=1)
theorem aiJ {a b:Ex}:cmp a b=0↔a=b:=⟨wo a b,fun h=>by rw[h];exact Dj b⟩
instance:DecidableEq Ex:=fun _ _=>decidable_of_iff _ aiJ
end Go.AM
set_option maxRecDepth 100000
namespace Go.AM
open Go.Proofs
noncomputable abbrev WD:Code:=cg Tryz.prog (au.aP 76)
noncomputable def Dl (C:ae) (op:Int) (t8:List V) (t9 t10:Int) (gQ:List V) {β:Type} (kn:(Int × (List V))→Option β) (kr:(Int × Bool × (List V))→Option β):Option β:=
 bif decide ((t10:Int)<t9) then
  (idx t8 t10).bind fun x1=>
  bif (((x1.cell 0).toInt):Int)==op then
  bif Nat.ble ((gQ.length+((x1.cell 2).toList).length)*40) cI then
   kn (IntKind.wrap .i64 (t10+1),gQ++((x1.cell 2).toList))
  else none
  else
  bif Nat.ble ((gQ.length+([.agg [.int .i64 ((x1.cell 0).toInt),.int .i64 ((x1.cell 1).toInt),.list aa ((x1.cell 2).toList)]]:List V).length)*40) cI then
   kn (IntKind.wrap .i64 (t10+1),gQ++([.agg [.int .i64 ((x1.cell 0).toInt),.int .i64 ((x1.cell 1).toInt),.list aa ((x1.cell 2).toList)]]:List V))
  else none
 else
  kr (t10,decide ((t10:Int)<t9),gQ)
noncomputable def Dm (C:ae) (op:Int) (t8:List V) (t9:Int):(Int × (List V))→Option ((Int × (List V)) ⊕ (Int × Bool × (List V))):=un fun t10 gQ=>Dl C op t8 t9 t10 gQ (fun y=>some (.inl y)) (fun r=>some (.inr r))
noncomputable def WE (C:ae):bZ:=fun β n ds k=>
 bif Nat.beq n 49 then bK MU [false,false,false,true,true] [[1,2,3,0,0,0]] (@Dl C) ds k else
 none
abbrev aiK (C:ae) (b:bX):Prop:=bY Tryz.prog au C (WE C) 76 (cj Tryz.prog (au.aP 76)) (au.sin 76).ba.length b
theorem aiL (C:ae):aiK C (.loop (aw [1,1,0,1,0,0] WD)):=
 bN MU [false,false,false,true,true] [[1,2,3,0,0,0]] (@Dl C) (by kernel_rfl) (a8 (bs:=[]) (by kernel_rfl) ax) (fun ds=>by kernel_rfl) (fun i x=>by kernel_rfl) (fun i x β k=>by kernel_rfl) (fun β ds k=>by kernel_rfl)
noncomputable def WG (C:ae) (op:Int) (kids:List V):Option (List V):=
 (Loop (Dm C op kids (kids.length:Int)) (0,([]:List V))).bind (un fun (t_2:Int)=>un fun (jI:Bool) (aiM:List V)=>
  some [.list aa aiM])
theorem aiN {op:Int} {kids:List V} {r:Option (List V)} (h:WG CC op kids=r):CC yK [.int .i64 op,.list aa kids]=r:=
 aY (key:=76) (L:=WE CC) (bs:=[.loop (aw [1,1,0,1,0,0] WD)]) (by kernel_rfl) (bq (aiL CC) ax) (aX (by kernel_rfl) h)
noncomputable def WH (C:ae) (op:Int) (parts:List V) (Ik Il:Int) (Im:List V):Option (List V):=
 bif ((parts.length:Int):Int)==0 then
  some [.int .i64 Ik,.int .i64 Il,.list aa Im]
 else
  bif ((parts.length:Int):Int)==1 then
  (parts[0]?).bind fun x1=>
  some [.int .i64 ((x1.cell 0).toInt),.int .i64 ((x1.cell 1).toInt),.list aa ((x1.cell 2).toList)]
  else
  some [.int .i64 op,.int .i64 0,.list aa parts]
theorem aiO {op:Int} {parts:List V} {Ik Il:Int} {Im:List V} {r:Option (List V)} (h:WH CC op parts Ik Il Im=r):CC m7 [.int .i64 op,.list aa parts,.int .i64 Ik,.int .i64 Il,.list aa Im]=r:=
 aY (key:=77) (L:=b6) (bs:=[]) (by kernel_rfl) ax (aX (by kernel_rfl) h)
noncomputable def aiP (C:ae):Option (List V):=
 some [.int .i64 1,.int .i64 0,.list aa ([]:List V)]
theorem aiQ {r:Option (List V)} (h:aiP CC=r):CC qp []=r:=
 aY (key:=79) (L:=b6) (bs:=[]) (by kernel_rfl) ax (aX (by kernel_rfl) h)
noncomputable def aiR (C:ae):Option (List V):=
 some [.int .i64 2,.int .i64 0,.list aa ([]:List V)]
theorem aiS {r:Option (List V)} (h:aiR CC=r):CC vE []=r:=
 aY (key:=68) (L:=b6) (bs:=[]) (by kernel_rfl) ax (aX (by kernel_rfl) h)
noncomputable def WI (C:ae):Option (List V):=
 (C qp []).bind fun r1=>
 some [.int .i64 8,.int .i64 0,.list aa ([.agg [.int .i64 ((V.nth r1 0).toInt),.int .i64 ((V.nth (r1.drop 1) 0).toInt),.list aa ((V.nth (r1.drop 2) 0).toList)]]:List V)]
theorem aiT {r:Option (List V)} (h:WI CC=r):CC tw []=r:=
 aY (key:=74) (L:=b6) (bs:=[]) (by kernel_rfl) ax (aX (by kernel_rfl) h)
end Go.AM
set_option maxRecDepth 100000
namespace Go.AM
open Go.Proofs Ex
theorem aiU {op:Int} {ks:List Ex} (hn:ks.length≤1000000) (hl:(bG op ks).length≤1000000):
  ∀(aJ pre:List Ex),ks=pre++aJ→
  Loop (Dm CC op (ks.map enc) ((ks.map enc).length:Int)) (((pre.length:Nat):Int),(bG op pre).map enc)=some (((ks.map enc).length:Int),false,(bG op ks).map enc):=by
 intro aJ
 induction aJ with
 | nil=>
  intro pre e
  rw[dy] at e
  subst e
  refine bj ?_
  simp only[Dm,Dl,un,bt]
  rw[az,ah (by omega),cl (by omega)]
 | cons k aJ ih=>
  intro pre e
  have aQ:pre.length<ks.length:=by rw[e];simp
  have hi:idx (ks.map enc) ((pre.length:Nat):Int)=some k.enc:=by rw[e];exact jJ pre aJ k
  have hf:bG op ks=bG op pre++((if k.op=op then k.kids else [k])++bG op aJ):=by
   rw[e];unfold bG;rw[List.flatMap_append,mE]
  have KR:bG op (pre++[k])=bG op pre++(if k.op=op then k.kids else [k]):=by
   unfold bG;rw[List.flatMap_append,mE,List.flatMap_nil,dy]
  rw[hf,cB,cB] at hl
  have bM:Dm CC op (ks.map enc) ((ks.map enc).length:Int) (((pre.length:Nat):Int),(bG op pre).map enc)=some (.inl (((pre.length+1:Nat):Int),(bG op (pre++[k])).map enc)):=by
   simp only[Dm,Dl,un,bt]
   rw[az,ag (by omega),hi,KR]
   simp only[Option.bind_some,bz,bA,bB,dD,ym,bt,List.length_singleton]
   by_cases h:k.op=op
   ·rw[ag h] at hl⊢
    rw[ag h,ag (by rw[oe];omega),wrap64 (by omega) (by omega),gn]
    rfl
   ·rw[ah h] at hl⊢
    rw[List.length_singleton] at hl
    rw[ah h,ag (by rw[oe];omega),wrap64 (by omega) (by omega),gn,←eY]
    rfl
  rw[bW bM]
  have:=ih (pre++[k]) (by simp[e])
  simpa using this
theorem OD {op:Int} {ks:List Ex} (hn:ks.length≤1000000) (hl:(bG op ks).length≤1000000):CC yK [.int .i64 op,.list aa (ks.map enc)]=some [.list aa ((bG op ks).map enc)]:=by
 refine aiN ?_
 unfold WG
 refine (congrArg (fun o=>Option.bind o _) (aiU hn hl ks [] rfl)).trans ?_
 rfl
def iQ (e:Ex):List V:=[.int .i64 e.op,.int .i64 e.letter,.list aa (e.kids.map enc)]
def fC (op:Int) (l:List Ex) (nT:Ex):Ex:=
 match l with
 | []=>nT
 | [k]=>k
 | l=> .node op 0 l
theorem qF {op:Int} {l:List Ex} {z:Ex}:CC m7 (.int .i64 op:: .list aa (l.map enc)::iQ z)=some (iQ (fC op l z)):=by
 refine aiO ?_
 unfold WH
 simp only[dD,bt]
 match l with
 | []=>simp[fC,iQ]
 | [k]=>simp[fC,iQ,bz,bA,bB]
 | k::k2::l=>
  rw[ah (by simp only[List.length_cons];omega),ah (by simp only[List.length_cons];omega)]
  rfl
end Go.AM
set_option maxRecDepth 100000
set_option maxHeartbeats 1000000
namespace Go.AM
open Go.Proofs Ex
def Ex.lx (a b:Ex):Prop:=cmp a b<0
noncomputable instance (a b:Ex):Decidable (a.lx b):=by unfold Ex.lx;infer_instance
theorem Ex.WJ (a:Ex): ¬a.lx a:=by unfold Ex.lx;rw[Dj];omega
theorem Ex.OE {a b c:Ex} (h1:a.lx b) (U:b.lx c):a.lx c:=by
 unfold Ex.lx at*
 have h3:=OA a b c (by omega) (by omega)
 refine Decidable.byContradiction fun h=> ?_
 have h0:cmp a c=0:=by omega
 have:=wo a c h0
 subst this
 have:=tS a b
 omega
theorem Ex.aiV {a b:Ex}:a.lx b→¬b.lx a:=by
 unfold Ex.lx
 have:=tS a b
 omega
theorem Ex.WK {a b:Ex} (h1: ¬a.lx b) (U: ¬b.lx a):a=b:=by
 unfold Ex.lx at*
 have:=tS a b
 exact wo a b (by omega)
abbrev kb (E:List Ex):Prop:=E.Pairwise Ex.lx
theorem OF: ∀{A B:List Ex},kb A→kb B→(∀x,x∈A↔x∈B)→A=B
 | [],[],_,_,_=>rfl
 | [],b::B,_,_,h=>by have:=(h b).2 (by simp);cases this
 | a::A,[],_,_,h=>by have:=(h a).1 (by simp);cases this
 | a::A,b::B,hA,hB,h=>by
  have a1:=uv.1 hA
  have b1:=uv.1 hB
  have fu:a=b:=by
   have ha:=(h a).1 (by simp)
   have hb:=(h b).2 (by simp)
   rcases dx.1 ha with e|e
   ·exact e
   ·rcases dx.1 hb with e'|e'
    ·exact e'.symm
    ·exact absurd (a1.1 b e') (Ex.aiV (b1.1 a e))
  subst fu
  rw[OF a1.2 b1.2 fun x=> ?_]
  constructor
  ·intro hx
   rcases dx.1 ((h x).1 (by simp[hx])) with e|e
   ·subst e;exact absurd (a1.1 x hx) (Ex.WJ x)
   ·exact e
  ·intro hx
   rcases dx.1 ((h x).2 (by simp[hx])) with e|e
   ·subst e;exact absurd (b1.1 x hx) (Ex.WJ x)
   ·exact e
open Classical in
noncomputable def zo (out:List Ex) (e:Ex):List Ex:=
 if iP out e out.length=0∨¬out.getD (iP out e out.length-1) bm=e then out.take (iP out e out.length)++[e]++out.drop (iP out e out.length) else out
theorem WM (out:List Ex) (e:Ex): ∀k i,iP out e k≤i→i<k→e.lx (out.getD i bm)
 | 0,i,_,h=>by omega
 | k+1,i,h1,U=>by
  unfold iP at h1
  split at h1
  ·rename_i h3
   by_cases hi:i=k
   ·subst hi;exact h3
   ·exact WM out e k i h1 (by omega)
  ·omega
theorem WN (out:List Ex) (e:Ex): ∀k,iP out e k≠0→¬e.lx (out.getD (iP out e k-1) bm)
 | 0,h=>by simp[iP] at h
 | k+1,h=>by
  unfold iP at h⊢
  split
  ·rename_i h3
   rw[ag h3] at h
   exact WN out e k h
  ·rename_i h3
   exact h3
theorem aiW {out:List Ex} {e x:Ex} (hk:iP out e out.length≤out.length):x∈zo out e↔x=e∨x∈out:=by
 unfold zo
 split
 ·rename_i h
  have:=EL (iP out e out.length) out
  constructor
  ·intro hx
   simp only[cw,eJ,ew] at hx
   rcases hx with hx|hx|hx
   ·exact .inr (List.mem_of_mem_take hx)
   ·exact .inl hx
   ·exact .inr (List.mem_of_mem_drop hx)
  ·rintro (rfl|hx)
   ·simp
   ·rw[←this] at hx
    simp only[eJ] at hx
    simp only[cw,eJ,ew]
    rcases hx with hx|hx
    ·exact .inl hx
    ·exact .inr (.inr hx)
 ·rename_i h
  simp only[not_or,ER] at h
  constructor
  ·exact .inr
  ·rintro (rfl|hx)
   ·have h1:=h.2
    have U:iP out x out.length-1<out.length:=by omega
    rw[←h1]
    simp[U]
   ·exact hx
theorem aiX {out:List Ex} {e:Ex} (h:kb out):kb (zo out e):=by
 have hk:=OC out e out.length
 have up:=WM out e out.length
 have dn:=WN out e out.length
 unfold zo
 generalize hq:iP out e out.length=k at*
 split
 ·rename_i hc
  have g:=EM.1 h
  have ji: ∀x∈out.take k,x.lx e:=by
   intro x hx
   obtain ⟨i,hi,rfl⟩:=List.getElem_of_mem hx
   have ef:i<k:=by rw[fT] at hi;omega
   have rN:i<out.length:=by omega
   rw[List.getElem_take]
   have mo:k≠0:=by omega
   have h1:=dn mo
   have U: ¬out.getD (k-1) bm=e:=by
    rcases hc with hc|hc
    ·exact absurd hc mo
    ·exact hc
   have iK:k-1<out.length:=by omega
   have e1:out.getD (k-1) bm=out[k-1]:=by simp[iK]
   rw[e1] at h1 U
   have h3:out[k-1].lx e:=by
    by_cases h4:out[k-1].lx e
    ·exact h4
    ·exact absurd (Ex.WK h4 h1) U
   by_cases hik:i=k-1
   ·subst hik;exact h3
   ·exact Ex.OE (g i (k-1) rN iK (by omega)) h3
  have ic: ∀y∈out.drop k,e.lx y:=by
   intro y hy
   obtain ⟨i,hi,rfl⟩:=List.getElem_of_mem hy
   rw[ur] at hi
   rw[List.getElem_drop]
   have:=up (k+i) (by omega) (by omega)
   have e1:out.getD (k+i) bm=out[k+i]:=by simp[show k+i<out.length by omega]
   rwa [e1] at this
  rw[kb,cw,List.pairwise_append]
  refine ⟨h.sublist (List.take_sublist _ _),?_,?_⟩
  ·rw[List.singleton_append,uv]
   exact ⟨ic,h.sublist (List.drop_sublist _ _)⟩
  ·intro x hx y hy
   rw[List.singleton_append,dx] at hy
   rcases hy with rfl|hy
   ·exact ji x hx
   ·exact Ex.OE (ji x hx) (ic y hy)
 ·exact h
theorem WO (out:List Ex) (e:Ex):gh out e=zo out e:=by
 unfold gh zo
 generalize iP out e out.length=k
 by_cases h:k=0∨¬out.getD (k-1) bm=e
 ·rw[ag h,ah (fun U=>by
   rcases h with h|h
   ·omega
   ·exact h (wo _ _ U.2))]
  simp
 ·rw[ah h,ag]
  simp only[not_or,ER] at h
  exact ⟨by omega,by rw[h.2];exact Dj e⟩
end Go.AM
set_option maxRecDepth 100000
namespace Go.AM
open Go.Proofs Ex
def ec:Ex:= .node 1 0 []
def jv:Ex:= .node 2 0 []
def gR:Ex:= .node 8 0 [ec]
def dI (o l:Int) (ks:List Ex):Ex:=
 if o=8 then (let k:=ks.getD 0 bm;if k.op=8 then k.kids.getD 0 bm else .node o l ks)
 else if o=7 then (let k:=ks.getD 0 bm;if k.op=1∨k.op=2 then jv else if k.op=7∨univ k=true then k else .node o l ks)
 else if o=5 then (let f:=bG 5 ks;if f.any (fun k=>decide (k.op=1)) then ec else fC 5 (f.filter fun k=>decide (k.op≠2)) jv)
 else if o=4 then (let f:=bG 4 ks;if f.any univ then gR else fC 4 ((f.filter fun k=>decide (k.op≠1)).foldl gh []) ec)
 else if o=6 then (let f:=bG 6 ks;if f.any (fun k=>decide (k.op=1)) then ec else fC 6 ((f.filter fun k=> !(univ k)).foldl gh []) gR)
 else .node o l ks
mutual
def aZ:Ex→Ex
 | .node o l ks=>dI o l (Dn ks)
def Dn:List Ex→List Ex
 | []=>[]
 | k::ks=>aZ k::Dn ks
end
theorem WQ: ∀ks,Dn ks=ks.map aZ
 | []=>by simp only[Dn,fp]
 | k::ks=>by simp only[Dn,cr,WQ ks]
theorem aiY {out:List Ex} {e:Ex} (h:kb out):kb (gh out e):=by rw[WO];exact aiX h
theorem aiZ {out:List Ex} {e x:Ex}:x∈gh out e↔x=e∨x∈out:=by rw[WO];exact aiW (OC _ _ _)
theorem Io: ∀(l out:List Ex),kb out→kb (l.foldl gh out)∧∀x,x∈l.foldl gh out↔x∈l∨x∈out
 | [],out,h=>⟨h,by simp⟩
 | e::l,out,h=>by
  obtain ⟨h1,U⟩:=Io l (gh out e) (aiY h)
  refine ⟨h1,fun x=> ?_⟩
  rw[List.foldl_cons,U,aiZ]
  simp only[dx]
  constructor
  ·rintro (h|h|h)
   ·exact .inl (.inr h)
   ·exact .inl (.inl h)
   ·exact .inr h
  ·rintro ((h|h)|h)
   ·exact .inr (.inl h)
   ·exact .inl h
   ·exact .inr (.inr h)
def su (o:Int) (ks:List Ex):Prop:=
 (o=8→∀k∈ks,k.op≠8)∧
 (o=7→∀k∈ks,k.op≠1∧k.op≠2∧k.op≠7∧univ k=false)∧
 (o=5→∀k∈ks,k.op≠5∧k.op≠1∧k.op≠2)∧
 (o=4→kb ks∧∀k∈ks,k.op≠4∧k.op≠1∧univ k=false)∧
 (o=6→kb ks∧∀k∈ks,k.op≠6∧k.op≠1∧univ k=false)
inductive Nm:Ex→Prop
 | node {o l:Int} {ks:List Ex}:(∀k∈ks,Nm k)→su o ks→Nm (.node o l ks)
theorem Nm.og {o l:Int} {ks:List Ex} (h:Nm (.node o l ks)): ∀k∈ks,Nm k:=by cases h;assumption
theorem Nm.ok {o l:Int} {ks:List Ex} (h:Nm (.node o l ks)):su o ks:=by cases h;assumption
def Gd (n:Int) (e:Ex):Prop:=Nm e∧e.wf n=true
theorem wu {n o l:Int} {ks:List Ex} (h:dz o l ks.length n=true) (hk: ∀k∈ks,k.wf n=true):(Ex.node o l ks).wf n=true:=by
 have: ∀ks:List Ex,(∀k∈ks,k.wf n=true)→il n ks=true:=by
  intro ks
  induction ks with
  | nil=>intro _;simp only[il]
  | cons k ks ih=>intro h;simp only[il,h k (by simp),ih fun k hk=>h k (by simp[hk]),km]
 simp only[Ex.wf,h,this ks hk,km]
theorem eE {o l len n:Int} (h:dz o l len n=true):(o=3∧len=0∧0≤l∧l<n)∨(l=0∧((o=1∧len=0)∨(o=2∧len=0)∨(o=4∧2≤len)∨(o=5∧2≤len)∨(o=6∧2≤len)∨(o=7∧len=1)∨(o=8∧len=1))):=by
 unfold dz at h
 split at h
 ·rename_i h3
  have:=iw h
  omega
 ·rw[aO] at h
  have h1:=iw h.1
  have U:=h.2
  split at U
  ·have:=iw U;omega
  ·split at U
   ·have:=iw U;omega
   ·have:=iw U;omega
theorem Gd.kids {n:Int} {e:Ex} (h:Gd n e): ∀k∈e.kids,Gd n k:=by
 obtain ⟨o,l,ks⟩:=e
 exact fun k hk=>⟨h.1.og k hk,(gg h.2).2 k hk⟩
theorem Gd.ok {n:Int} {e:Ex} (h:Gd n e):su e.op e.kids:=by
 obtain ⟨o,l,ks⟩:=e
 exact h.1.ok
theorem Gd.shape {n:Int} {e:Ex} (h:Gd n e):dz e.op e.letter e.kids.length n=true:=by
 obtain ⟨o,l,ks⟩:=e
 exact (gg h.2).1
theorem Gd.mk' {n o l:Int} {ks:List Ex} (h1: ∀k∈ks,Gd n k) (U:su o ks) (h3:dz o l ks.length n=true):Gd n (.node o l ks):=
 ⟨.node (fun k hk=>(h1 k hk).1) U,wu h3 fun k hk=>(h1 k hk).2⟩
theorem Ip {n:Int}:Gd n ec:= .mk' (by simp) ⟨by simp,by simp,by simp,by simp,by simp⟩ (by simp[dz])
theorem WR {n:Int}:Gd n jv:= .mk' (by simp) ⟨by simp,by simp,by simp,by simp,by simp⟩ (by simp[dz])
theorem WS {n:Int}:Gd n gR:= .mk' (by simp[Ip]) ⟨by simp[ec,Ex.op],by simp,by simp,by simp,by simp⟩ (by simp[dz])
theorem Iq {n:Int} {e:Ex} (h:Gd n e) (hu:univ e=true):e=gR:=by
 obtain ⟨o,l,ks⟩:=e
 have hs:=eE h.shape
 have hu:=iw hu
 simp only[Ex.op,Ex.kids,Ex.letter] at*
 match ks,hu with
 | [k],hu=>
  obtain ⟨o2,l2,my⟩:=k
  have nW:=eE (h.kids _ (ew.2 rfl)).shape
  simp only[Ex.op,Ex.kids,Ex.letter,Av] at*
  obtain rfl:my=[]:=qY.1 (by omega)
  unfold gR ec
  rw[show o=8 by omega,show l=0 by omega,show o2=1 by omega,show l2=0 by omega]
theorem empty_eq {n:Int} {e:Ex} (h:Gd n e) (ho:e.op=1):e=ec:=by
 obtain ⟨o,l,ks⟩:=e
 have hs:=eE h.shape
 simp only[Ex.op,Ex.kids,Ex.letter] at*
 obtain rfl:ks=[]:=qY.1 (by omega)
 unfold ec
 rw[show o=1 by omega,show l=0 by omega]
theorem unit_eq {n:Int} {e:Ex} (h:Gd n e) (ho:e.op=2):e=jv:=by
 obtain ⟨o,l,ks⟩:=e
 have hs:=eE h.shape
 simp only[Ex.op,Ex.kids,Ex.letter] at*
 obtain rfl:ks=[]:=qY.1 (by omega)
 unfold jv
 rw[show o=2 by omega,show l=0 by omega]
theorem Ir (a b:List Ex):aS (a++b)=aS a+aS b:=by
 induction a with
 | nil=>simp[aS]
 | cons k a ih=>simp only[List.cons_append,aS,ih];omega
theorem OG (p:Ex→Bool) (l:List Ex):aS (l.filter p)≤aS l:=by
 induction l with
 | nil=>simp[aS]
 | cons k l ih=>
  rw[pM]
  split
  ·simp only[aS];omega
  ·simp only[aS];omega
theorem qG (l:List Ex):l.length≤aS l:=by
 induction l with
 | nil=>simp[aS]
 | cons k l ih=>simp only[aS,List.length_cons];have:=k.size_pos;omega
theorem zp (o:Int) (l:List Ex):aS (bG o l)≤aS l:=by
 induction l with
 | nil=>simp[aS,bG]
 | cons k l ih=>
  have e:bG o (k::l)=(if k.op=o then k.kids else [k])++bG o l:=by simp[bG]
  rw[e,Ir]
  simp only[aS]
  split
  ·obtain ⟨o2,l2,ks⟩:=k
   simp only[Ex.kids,size] at*;omega
  ·simp only[aS];omega
theorem ai0 (l:List Ex) (x:Ex):aS (gh l x)≤aS l+x.size:=by
 unfold gh
 simp only
 split
 ·omega
 ·have:=congrArg aS (EL (iP l x l.length) l)
  rw[Ir] at this
  rw[Ir]
  simp only[aS]
  omega
theorem OH: ∀(l acc:List Ex),aS (l.foldl gh acc)≤aS acc+aS l
 | [],acc=>by simp[aS]
 | k::l,acc=>by
  rw[List.foldl_cons]
  have h1:=OH l (gh acc k)
  have U:=ai0 acc k
  simp only[aS]
  omega
theorem sw {l:List Ex} {d:Nat}:cS l≤d↔∀k∈l,k.depth≤d:=by
 induction l with
 | nil=>simp[cS]
 | cons k l ih=>simp only[cS,Nat.max_le,ih,dx,forall_eq_or_imp]
theorem WU {ks:List Ex} {k:Ex} (h:k∈ks):k.depth≤cS ks:=sw.1 (bV _) k h
theorem jK {o:Int} {l:List Ex} {x:Ex}:x∈bG o l↔∃k∈l,(k.op=o∧x∈k.kids)∨(k.op≠o∧x=k):=by
 unfold bG
 rw[List.mem_flatMap]
 constructor
 ·rintro ⟨k,hk,hx⟩
  refine ⟨k,hk,?_⟩
  by_cases h:k.op=o
  ·rw[ag h] at hx;exact .inl ⟨h,hx⟩
  ·rw[ah h] at hx;exact .inr ⟨h,by simpa using hx⟩
 ·rintro ⟨k,hk,h|h⟩
  ·exact ⟨k,hk,by rw[ag h.1];exact h.2⟩
  ·exact ⟨k,hk,by rw[ah h.1];simp[h.2]⟩
theorem OI {o:Int} {l:List Ex} {d:Nat} (h:cS l≤d):cS (bG o l)≤d:=by
 rw[sw] at*
 intro x hx
 obtain ⟨k,hk,h1|h1⟩:=jK.1 hx
 ·have:=h k hk
  have U:=WU h1.2
  obtain ⟨o2,l2,ks⟩:=k
  simp only[Ex.kids,depth] at*
  omega
 ·rw[h1.2];exact h k hk
theorem OJ {o:Int} {l:List Ex} {z:Ex} {m:Nat} (h:1+aS l≤m) (hz:z.size≤m):(fC o l z).size≤m:=by
 match l,h with
 | [],_=>exact hz
 | [k],h=>simp only[fC,aS] at*;omega
 | k::k2::l,h=>simp only[fC,size];omega
theorem OK {o:Int} {l:List Ex} {z:Ex} {m:Nat} (h:1+cS l≤m) (hz:z.depth≤m):(fC o l z).depth≤m:=by
 match l,h with
 | [],_=>exact hz
 | [k],h=>simp only[fC,cS] at*;omega
 | k::k2::l,h=>simp only[fC,depth];omega
theorem OL {n o:Int} {l:List Ex} {z:Ex} (hz:Gd n z) (hl: ∀k∈l,Gd n k) (hn:su o l) (ho:4≤o∧o≤6):Gd n (fC o l z):=by
 match l,hl,hn with
 | [],_,_=>exact hz
 | [k],h,_=>exact h k (by simp)
 | k::k2::l,h,hn=>
  refine .mk' h hn ?_
  unfold dz
  rw[ah (by omega),ah (by omega),ah (by omega)]
  simp only[List.length_cons,oM,km]
  exact eK (by omega)
section
variable {n:Int} {ks:List Ex} (hk: ∀k∈ks,Gd n k)
include hk
theorem Dp (o:Int): ∀k∈bG o ks,Gd n k:=fun x hx=>by
 obtain ⟨k,h,h1|h1⟩:=jK.1 hx
 ·exact (hk k h).kids x h1.2
 ·rw[h1.2];exact hk k h
theorem ai1: ∀k∈bG 5 ks,k.op≠5:=fun x hx=>by
 obtain ⟨k,h,h1|h1⟩:=jK.1 hx
 ·exact ((hk k h).ok.2.2.1 h1.1 x h1.2).1
 ·rw[h1.2];exact h1.1
theorem ai2: ∀k∈bG 4 ks,k.op≠4:=fun x hx=>by
 obtain ⟨k,h,h1|h1⟩:=jK.1 hx
 ·exact (((hk k h).ok.2.2.2.1 h1.1).2 x h1.2).1
 ·rw[h1.2];exact h1.1
theorem ai3: ∀k∈bG 6 ks,k.op≠6:=fun x hx=>by
 obtain ⟨k,h,h1|h1⟩:=jK.1 hx
 ·exact (((hk k h).ok.2.2.2.2 h1.1).2 x h1.2).1
 ·rw[h1.2];exact h1.1
theorem OM:(bG 5 ks).any (fun k=>decide (k.op=1))=ks.any fun k=>decide (k.op=1):=by
 rw[nB,kp,kp]
 simp only[dX]
 constructor
 ·rintro ⟨x,hx,h⟩
  obtain ⟨k,U,h1|h1⟩:=jK.1 hx
  ·exact absurd h ((hk k U).ok.2.2.1 h1.1 x h1.2).2.1
  ·exact ⟨k,U,h1.2▸h⟩
 ·rintro ⟨k,h1,h⟩
  exact ⟨k,jK.2 ⟨k,h1,.inr ⟨by omega,rfl⟩⟩,h⟩
theorem ai4:(bG 6 ks).any (fun k=>decide (k.op=1))=ks.any fun k=>decide (k.op=1):=by
 rw[nB,kp,kp]
 simp only[dX]
 constructor
 ·rintro ⟨x,hx,h⟩
  obtain ⟨k,U,h1|h1⟩:=jK.1 hx
  ·exact absurd h (((hk k U).ok.2.2.2.2 h1.1).2 x h1.2).2.1
  ·exact ⟨k,U,h1.2▸h⟩
 ·rintro ⟨k,h1,h⟩
  exact ⟨k,jK.2 ⟨k,h1,.inr ⟨by omega,rfl⟩⟩,h⟩
theorem WV:(bG 4 ks).any univ=ks.any univ:=by
 rw[nB,kp,kp]
 constructor
 ·rintro ⟨x,hx,h⟩
  obtain ⟨k,U,h1|h1⟩:=jK.1 hx
  ·rw[(((hk k U).ok.2.2.2.1 h1.1).2 x h1.2).2.2] at h;cases h
  ·exact ⟨k,U,h1.2▸h⟩
 ·rintro ⟨k,h1,h⟩
  have:=iw h
  exact ⟨k,jK.2 ⟨k,h1,.inr ⟨by omega,rfl⟩⟩,h⟩
end
theorem tV {l:Int} {ks:List Ex}:dI 5 l ks=if (bG 5 ks).any (fun k=>decide (k.op=1)) then ec else fC 5 ((bG 5 ks).filter fun k=>decide (k.op≠2)) jv:=by
 unfold dI;rw[ah (by omega),ah (by omega),ag rfl]
theorem wv {l:Int} {ks:List Ex}:dI 4 l ks=if (bG 4 ks).any univ then gR else fC 4 (((bG 4 ks).filter fun k=>decide (k.op≠1)).foldl gh []) ec:=by
 unfold dI;rw[ah (by omega),ah (by omega),ah (by omega),ag rfl]
theorem zq {l:Int} {ks:List Ex}:dI 6 l ks=if (bG 6 ks).any (fun k=>decide (k.op=1)) then ec else fC 6 (((bG 6 ks).filter fun k=> !(univ k)).foldl gh []) gR:=by
 unfold dI;rw[ah (by omega),ah (by omega),ah (by omega),ah (by omega),ag rfl]
theorem zr {l:Int} {k:Ex}:dI 7 l [k]=if k.op=1∨k.op=2 then jv else if k.op=7∨univ k=true then k else .node 7 l [k]:=by
 unfold dI;rw[ah (by omega),ag rfl];rfl
theorem zt {l:Int} {k:Ex}:dI 8 l [k]=if k.op=8 then k.kids.getD 0 bm else .node 8 l [k]:=by
 unfold dI;rw[ag rfl];rfl
theorem kf {o l:Int} (h:o=1∨o=2∨o=3) {ks:List Ex}:dI o l ks= .node o l ks:=by
 unfold dI;rw[ah (by omega),ah (by omega),ah (by omega),ah (by omega),ah (by omega)]
theorem WW {n:Int} {l:List Ex} (h: ∀k∈l,Gd n k): ∀k∈l.foldl gh [],Gd n k:=fun k hk=>by
 rcases ((Io l [] .nil).2 k).1 hk with h1|h1
 ·exact h k h1
 ·cases h1
theorem qH {l:List Ex} {x:Ex}:x∈l.foldl gh []↔x∈l:=by
 rw[(Io l [] .nil).2 x];simp
theorem Is {l:List Ex}:kb (l.foldl gh []):=(Io l [] .nil).1
theorem ai5 {l:List Ex} (h: ∀k∈l,k.op≠5∧k.op≠1∧k.op≠2):su 5 l:=⟨by simp,by simp,fun _=>h,by simp,by simp⟩
theorem ai6 {l:List Ex} (h:kb l∧∀k∈l,k.op≠4∧k.op≠1∧univ k=false):su 4 l:=⟨by simp,by simp,by simp,fun _=>h,by simp⟩
theorem ai7 {l:List Ex} (h:kb l∧∀k∈l,k.op≠6∧k.op≠1∧univ k=false):su 6 l:=⟨by simp,by simp,by simp,by simp,fun _=>h⟩
theorem any_false {α:Type} {p:α→Bool} {l:List α} (h: ¬l.any p=true): ∀x∈l,p x=false:=fun x hx=>by
 cases hp:p x with
 | false=>rfl
 | true=>exact absurd (kp.2 ⟨x,hx,hp⟩) h
theorem ai8 {n o l:Int} {ks:List Ex} (hk: ∀k∈ks,Gd n k) (hs:dz o l ks.length n=true):Gd n (dI o l ks):=by
 rcases eE hs with ⟨rfl,h1,_⟩|⟨rfl,⟨rfl,h1⟩|⟨rfl,h1⟩|⟨rfl,h1⟩|⟨rfl,h1⟩|⟨rfl,h1⟩|⟨rfl,h1⟩|⟨rfl,h1⟩⟩
 ·rw[kf (by omega)];exact .mk' hk ⟨by simp,by simp,by simp,by simp,by simp⟩ hs
 ·rw[kf (by omega)];exact .mk' hk ⟨by simp,by simp,by simp,by simp,by simp⟩ hs
 ·rw[kf (by omega)];exact .mk' hk ⟨by simp,by simp,by simp,by simp,by simp⟩ hs
 ·rw[wv]
  split
  ·exact WS
  ·rename_i hu
   refine OL Ip (WW fun k h=>Dp hk 4 k (kq.1 h).1) (ai6 ⟨Is,fun k h=> ?_⟩) (by omega)
   have U:=kq.1 (qH.1 h)
   exact ⟨ai2 hk k U.1,iw U.2,any_false hu k U.1⟩
 ·rw[tV]
  split
  ·exact Ip
  ·rename_i hu
   refine OL WR (fun k h=>Dp hk 5 k (kq.1 h).1) (ai5 fun k h=> ?_) (by omega)
   have U:=kq.1 h
   exact ⟨ai1 hk k U.1,of_decide_eq_false (any_false hu k U.1),iw U.2⟩
 ·rw[zq]
  split
  ·exact Ip
  ·rename_i hu
   refine OL WS (WW fun k h=>Dp hk 6 k (kq.1 h).1) (ai7 ⟨Is,fun k h=> ?_⟩) (by omega)
   have U:=kq.1 (qH.1 h)
   exact ⟨ai3 hk k U.1,of_decide_eq_false (any_false hu k U.1),by simpa using U.2⟩
 ·match ks,h1 with
  | [k],_=>
   rw[zr]
   split
   ·exact WR
   ·split
    ·exact hk k (by simp)
    ·rename_i U h3
     refine .mk' hk ⟨by simp,fun _ x hx=> ?_,by simp,by simp,by simp⟩ hs
     rw[ew.1 hx]
     exact ⟨by omega,by omega,fun h=>h3 (.inl h),by simpa using fun h=>h3 (.inr h)⟩
 ·match ks,h1 with
  | [k],_=>
   rw[zt]
   split
   ·rename_i h8
    have hg:=hk k (by simp)
    have nW:=eE hg.shape
    obtain ⟨o2,l2,my⟩:=k
    simp only[Ex.op,Ex.kids,Ex.letter] at*
    match my,(show (my.length:Int)=1 by omega) with
    | [x],_=>exact hg.kids x (by simp[Ex.kids])
   ·rename_i h8
    refine .mk' hk ⟨fun _ x hx=> ?_,by simp,by simp,by simp,by simp⟩ hs
    rw[ew.1 hx]
    exact h8
theorem ai9 {n o l:Int} {ks:List Ex} (hs:dz o l ks.length n=true):(dI o l ks).size≤1+aS ks:=by
 have hl:=qG ks
 have z1:ec.size=1:=by simp[ec,size,aS]
 have z2:jv.size=1:=by simp[jv,size,aS]
 have z3:gR.size=2:=by simp[gR,ec,size,aS]
 rcases eE hs with ⟨rfl,h1,_⟩|⟨rfl,⟨rfl,h1⟩|⟨rfl,h1⟩|⟨rfl,h1⟩|⟨rfl,h1⟩|⟨rfl,h1⟩|⟨rfl,h1⟩|⟨rfl,h1⟩⟩
 ·rw[kf (by omega)];simp only[size];omega
 ·rw[kf (by omega)];simp only[size];omega
 ·rw[kf (by omega)];simp only[size];omega
 ·rw[wv]
  have a1:=zp 4 ks
  have a2:=OG (fun k=>decide (k.op≠1)) (bG 4 ks)
  have a3:=OH ((bG 4 ks).filter fun k=>decide (k.op≠1)) []
  simp only[aS] at a3
  split
  ·omega
  ·exact OJ (by omega) (by omega)
 ·rw[tV]
  have a1:=zp 5 ks
  have a2:=OG (fun k=>decide (k.op≠2)) (bG 5 ks)
  split
  ·omega
  ·exact OJ (by omega) (by omega)
 ·rw[zq]
  have a1:=zp 6 ks
  have a2:=OG (fun k=> !(univ k)) (bG 6 ks)
  have a3:=OH ((bG 6 ks).filter fun k=> !(univ k)) []
  simp only[aS] at a3
  split
  ·omega
  ·exact OJ (by omega) (by omega)
 ·match ks,h1 with
  | [k],_=>
   rw[zr]
   simp only[aS] at*
   split
   ·omega
   ·split
    ·omega
    ·simp only[size,aS];omega
 ·match ks,h1 with
  | [k],_=>
   rw[zt]
   simp only[aS] at*
   split
   ·obtain ⟨o2,l2,my⟩:=k
    match my with
    | []=>simp[Ex.kids,bm,size,aS]
    | x::my=>simp only[Ex.kids,Av,size,aS];omega
   ·simp only[size,aS];omega
theorem aja {n o l:Int} {ks:List Ex} (hs:dz o l ks.length n=true):(dI o l ks).depth≤1+cS ks:=by
 have z1:ec.depth=1:=by simp[ec,depth,cS]
 have z2:jv.depth=1:=by simp[jv,depth,cS]
 have z3:gR.depth=2:=by simp[gR,ec,depth,cS]
 have hl:2≤ks.length→1≤cS ks:=fun h=>by
  match ks,h with
  | k::ks,_=>have:=k.aee;simp only[cS];omega
 rcases eE hs with ⟨rfl,h1,_⟩|⟨rfl,⟨rfl,h1⟩|⟨rfl,h1⟩|⟨rfl,h1⟩|⟨rfl,h1⟩|⟨rfl,h1⟩|⟨rfl,h1⟩|⟨rfl,h1⟩⟩
 ·rw[kf (by omega)];simp only[depth];omega
 ·rw[kf (by omega)];simp only[depth];omega
 ·rw[kf (by omega)];simp only[depth];omega
 ·rw[wv]
  have a1:=sw.1 (OI (o:=4) (bV (cS ks)))
  have a3:cS (((bG 4 ks).filter fun k=>decide (k.op≠1)).foldl gh [])≤cS ks:=sw.2 fun k h=>a1 k (kq.1 (qH.1 h)).1
  split
  ·omega
  ·exact OK (by omega) (by omega)
 ·rw[tV]
  have a1:=sw.1 (OI (o:=5) (bV (cS ks)))
  have a3:cS ((bG 5 ks).filter fun k=>decide (k.op≠2))≤cS ks:=sw.2 fun k h=>a1 k (kq.1 h).1
  split
  ·omega
  ·exact OK (by omega) (by omega)
 ·rw[zq]
  have a1:=sw.1 (OI (o:=6) (bV (cS ks)))
  have a3:cS (((bG 6 ks).filter fun k=> !(univ k)).foldl gh [])≤cS ks:=sw.2 fun k h=>a1 k (kq.1 (qH.1 h)).1
  split
  ·omega
  ·exact OK (by omega) (by omega)
 ·match ks,h1 with
  | [k],_=>
   rw[zr]
   simp only[cS] at*
   split
   ·omega
   ·split
    ·omega
    ·simp only[depth,cS];omega
 ·match ks,h1 with
  | [k],_=>
   rw[zt]
   simp only[cS] at*
   split
   ·obtain ⟨o2,l2,my⟩:=k
    match my with
    | []=>simp[Ex.kids,bm,depth,cS]
    | x::my=>simp only[Ex.kids,Av,depth,cS];omega
   ·simp only[depth,cS];omega
theorem mz {o l:Int} {ks:List Ex}:aZ (.node o l ks)=dI o l (ks.map aZ):=by rw[aZ,WQ]
theorem nj {n:Int}: ∀e:Ex,e.wf n=true→Gd n (aZ e):=ind fun o l ks ih hw=>by
 obtain ⟨h1,U⟩:=gg hw
 rw[mz]
 refine ai8 (fun k hk=> ?_) (by simpa using h1)
 obtain ⟨x,hx,rfl⟩:=ey.1 hk
 exact ih x hx (U x hx)
theorem Dq {n:Int}: ∀e:Ex,e.wf n=true→(aZ e).size≤e.size:=ind fun o l ks ih hw=>by
 obtain ⟨h1,U⟩:=gg hw
 have: ∀ks:List Ex,(∀k∈ks,(aZ k).size≤k.size)→aS (ks.map aZ)≤aS ks:=by
  intro ks
  induction ks with
  | nil=>intro _;simp[aS]
  | cons k ks ih=>intro h;have a:=h k (by simp);have b:=ih fun k hk=>h k (by simp[hk]);simp only[cr,aS];omega
 have h3:=this ks fun k hk=>ih k hk (U k hk)
 rw[mz]
 have:=ai9 (n:=n) (o:=o) (l:=l) (ks:=ks.map aZ) (by simpa using h1)
 simp only[size]
 omega
theorem ajb {n:Int}: ∀e:Ex,e.wf n=true→(aZ e).depth≤e.depth:=ind fun o l ks ih hw=>by
 obtain ⟨h1,U⟩:=gg hw
 have h3:cS (ks.map aZ)≤cS ks:=sw.2 fun x hx=>by
  obtain ⟨k,hk,rfl⟩:=ey.1 hx
  exact lg (ih k hk (U k hk)) (WU hk)
 rw[mz]
 have:=aja (n:=n) (o:=o) (l:=l) (ks:=ks.map aZ) (by simpa using h1)
 simp only[depth]
 omega
theorem wz {n:Int} (hn:n≤6): ∀e:Ex,e.wf n=true→e.size≤1000000→e.Ok:=ind fun o l ks ih hw hs=>by
 obtain ⟨h1,U⟩:=gg hw
 have hl:=qG ks
 simp only[size] at hs
 have h3:=eE h1
 have hm:ks.length≤maxLen:=by unfold maxLen;omega
 exact .node (by omega) (by omega) hm fun k hk=>ih k hk (U k hk) (by have:=Df hk;omega)
theorem It {o:Int}: ∀{ks:List Ex},(∀k∈ks,k.op≠o)→bG o ks=ks
 | [],_=>rfl
 | k::ks,h=>by
  have e:bG o (k::ks)=(if k.op=o then k.kids else [k])++bG o ks:=by simp[bG]
  rw[e,ah (h k (by simp)),It fun k hk=>h k (by simp[hk])]
  rfl
theorem Dr {o:Int} {l:List Ex} {z:Ex} (h:2≤l.length):fC o l z= .node o 0 l:=by
 match l,h with
 | k::k2::l,_=>rfl
theorem ON {l:List Ex} (h:kb l):l.foldl gh []=l:=OF Is h fun x=>qH
theorem zu {α:Type} {p:α→Bool} {l:List α} (h: ∀x∈l,p x=false):l.any p=false:=by
 cases e:l.any p with
 | false=>rfl
 | true=>obtain ⟨x,h1,U⟩:=kp.1 e;rw[h x h1] at U;cases U
theorem ajc {n o l:Int} {ks:List Ex} (h:Gd n (.node o l ks)):dI o l ks= .node o l ks:=by
 have hs:dz o l ks.length n=true:=h.shape
 have hk:su o ks:=h.ok
 rcases eE hs with ⟨rfl,h1,_⟩|⟨rfl,⟨rfl,h1⟩|⟨rfl,h1⟩|⟨rfl,h1⟩|⟨rfl,h1⟩|⟨rfl,h1⟩|⟨rfl,h1⟩|⟨rfl,h1⟩⟩
 ·rw[kf (by omega)]
 ·rw[kf (by omega)]
 ·rw[kf (by omega)]
 ·have h4:=hk.2.2.2.1 rfl
  rw[wv,It fun k hk=>(h4.2 k hk).1,zu fun k hk=>(h4.2 k hk).2.2,oO.2 fun k hk=>eK (h4.2 k hk).2.1,ON h4.1,Dr (by omega)]
  rfl
 ·have h5:=hk.2.2.1 rfl
  rw[tV,It fun k hk=>(h5 k hk).1,zu fun k hk=>cl (h5 k hk).2.1,oO.2 fun k hk=>eK (h5 k hk).2.2,Dr (by omega)]
  rfl
 ·have h6:=hk.2.2.2.2 rfl
  rw[zq,It fun k hk=>(h6.2 k hk).1,zu fun k hk=>cl (h6.2 k hk).2.1,oO.2 fun k hk=>by rw[(h6.2 k hk).2.2];rfl,ON h6.1,Dr (by omega)]
  rfl
 ·match ks,h1 with
  | [k],_=>
   have h7:=hk.2.1 rfl k (by simp)
   rw[zr,ah (by omega),ah]
   rintro (h|h)
   ·exact h7.2.2.1 h
   ·rw[h7.2.2.2] at h;cases h
 ·match ks,h1 with
  | [k],_=>rw[zt,ah (hk.1 rfl k (by simp))]
theorem WX {n:Int}: ∀e:Ex,Gd n e→aZ e=e:=ind fun o l ks ih h=>by
 have:ks.map aZ=ks:=by
  have U: ∀k∈ks,aZ k=k:=fun k hk=>ih k hk (h.kids k hk)
  calc ks.map aZ=ks.map id:=nA U
   _=ks:=List.map_id ks
 rw[mz,this,ajc h]
def Iu (e:Ex):List Ex:=if e.op=4 then e.kids else if e.op=1 then [] else [e]
def Iv (e:Ex):List Ex:=if e.op=5 then e.kids else if e.op=2 then [] else [e]
section
variable {n:Int} {ks:List Ex} (hk: ∀k∈ks,Gd n k)
include hk
theorem ff4:(bG 4 ks).filter (fun k=>decide (k.op≠1))=ks.flatMap Iu:=by
 induction ks with
 | nil=>rfl
 | cons k ks ih=>
  have e:bG 4 (k::ks)=(if k.op=4 then k.kids else [k])++bG 4 ks:=by simp[bG]
  rw[e,nC,mE,ih fun k h=>hk k (by simp[h])]
  refine congrArg (· ++_) ?_
  unfold Iu
  have h:=hk k (by simp)
  by_cases h4:k.op=4
  ·rw[ag h4,ag h4]
   exact oO.2 fun x hx=>eK ((h.ok.2.2.2.1 h4).2 x hx).2.1
  ·rw[ah h4,ah h4]
   by_cases h1:k.op=1
   ·rw[ag h1];simp[h1]
   ·rw[ah h1];simp[h1]
theorem ff5:(bG 5 ks).filter (fun k=>decide (k.op≠2))=ks.flatMap Iv:=by
 induction ks with
 | nil=>rfl
 | cons k ks ih=>
  have e:bG 5 (k::ks)=(if k.op=5 then k.kids else [k])++bG 5 ks:=by simp[bG]
  rw[e,nC,mE,ih fun k h=>hk k (by simp[h])]
  refine congrArg (· ++_) ?_
  unfold Iv
  have h:=hk k (by simp)
  by_cases h4:k.op=5
  ·rw[ag h4,ag h4]
   exact oO.2 fun x hx=>eK (h.ok.2.2.1 h4 x hx).2.2
  ·rw[ah h4,ah h4]
   by_cases h1:k.op=2
   ·rw[ag h1];simp[h1]
   ·rw[ah h1];simp[h1]
theorem ajd {l:Int}:dI 4 l ks=if ks.any univ then gR else fC 4 ((ks.flatMap Iu).foldl gh []) ec:=by
 rw[wv,WV hk,ff4 hk]
theorem aje {l:Int}:dI 5 l ks=if ks.any (fun k=>decide (k.op=1)) then ec else fC 5 (ks.flatMap Iv) jv:=by
 rw[tV,OM hk,ff5 hk]
end
theorem ajf {n:Int} {x:Ex} (h:Gd n x):dI 4 0 [x]=x:=by
 rw[ajd (n:=n) (by simpa using h)]
 simp only[List.any_cons,List.any_nil,Bool.or_false,mE,List.flatMap_nil,dy]
 by_cases hu:univ x=true
 ·rw[ag hu,Iq h hu]
 ·rw[ah hu]
  unfold Iu
  by_cases h4:x.op=4
  ·rw[ag h4]
   have hs:=eE h.shape
   have U:=h.ok.2.2.2.1 h4
   obtain ⟨o,l,ks⟩:=x
   simp only[Ex.op,Ex.kids,Ex.letter] at*
   rw[ON U.1,Dr (by omega),h4,show l=0 by omega]
  ·rw[ah h4]
   by_cases h1:x.op=1
   ·rw[ag h1,empty_eq h h1];rfl
   ·rw[ah h1];rfl
theorem ajg {n:Int} {x:Ex} (h:Gd n x):dI 5 0 [x]=x:=by
 rw[aje (n:=n) (by simpa using h)]
 simp only[List.any_cons,List.any_nil,Bool.or_false,mE,List.flatMap_nil,dy]
 by_cases hu:x.op=1
 ·rw[eK hu,ag rfl,empty_eq h hu]
 ·rw[cl hu,ah (by simp)]
  unfold Iv
  by_cases h4:x.op=5
  ·rw[ag h4]
   have hs:=eE h.shape
   obtain ⟨o,l,ks⟩:=x
   simp only[Ex.op,Ex.kids,Ex.letter] at*
   rw[Dr (by omega),h4,show l=0 by omega]
  ·rw[ah h4]
   by_cases h1:x.op=2
   ·rw[ag h1,unit_eq h h1];rfl
   ·rw[ah h1];rfl
end Go.AM
set_option maxRecDepth 100000
namespace Go.AM
open Go.Proofs
noncomputable def WY (C:ae) (aj ar:Int) (ai:List V):Option (List V):=
 some [.bool ((aj:Int)==2)]
theorem ajh {aj ar:Int} {ai:List V} {r:Option (List V)} (h:WY CC aj ar ai=r):CC pk [.int .i64 aj,.int .i64 ar,.list aa ai]=r:=
 aY (key:=80) (L:=b6) (bs:=[]) (by kernel_rfl) ax (aX (by kernel_rfl) h)
noncomputable abbrev WZ:Code:=cg Tryz.prog (au.aP 71)
noncomputable def zw (C:ae) (s:List V) (t7 t8:Int) {β:Type} (kn:Int→Option β) (kr:((Int) ⊕ (Int × Bool))→Option β):Option β:=
 bif decide ((t8:Int)<t7) then
  (idx s t8).bind fun x1=>
  (C mi [.int .i64 ((x1.cell 0).toInt),.int .i64 ((x1.cell 1).toInt),.list aa ((x1.cell 2).toList)]).bind fun r2=>
  bif (V.nth r2 0).toBool then
  kr (.inl t8)
  else
  kn (IntKind.wrap .i64 (t8+1))
 else
  kr (.inr (t8,decide ((t8:Int)<t7)))
noncomputable def wA (C:ae) (s:List V) (t7:Int):(Int)→Option ((Int) ⊕ ((Int) ⊕ (Int × Bool))):=fun t8=>zw C s t7 t8 (fun y=>some (.inl y)) (fun r=>some (.inr r))
noncomputable def W0 (C:ae):bZ:=fun β n ds k=>
 bif Nat.beq n 33 then bK MS [false,false,true] [[0],[1,2,0,0]] (@zw C) ds k else
 none
abbrev aji (C:ae) (b:bX):Prop:=bY Tryz.prog au C (W0 C) 71 (cj Tryz.prog (au.aP 71)) (au.sin 71).ba.length b
theorem ajj (C:ae):aji C (.loop (aw [1,0,1,0,0] WZ)):=
 bN MS [false,false,true] [[0],[1,2,0,0]] (@zw C) (by kernel_rfl) (a8 (bs:=[]) (by kernel_rfl) ax) (fun ds=>by kernel_rfl) (fun i x=>by kernel_rfl) (fun i x β k=>by kernel_rfl) (fun β ds k=>by kernel_rfl)
noncomputable def OO (C:ae) (s:List V):Option (List V):=
 (Loop (wA C s (s.length:Int)) 0).bind (cu (fun (jI:Int)=>
  some [.int .i64 jI]) (un fun (mn:Int) (ik:Bool)=>
  some [.int .i64 (-1)]))
theorem W3 {s:List V} {r:Option (List V)} (h:OO CC s=r):CC sc [.list aa s]=r:=
 aY (key:=71) (L:=W0 CC) (bs:=[.loop (aw [1,0,1,0,0] WZ)]) (by kernel_rfl) (bq (ajj CC) ax) (aX (by kernel_rfl) h)
noncomputable def W4 (C:ae) (s:List V):Option (List V):=
 (C sc [.list aa s]).bind fun r1=>
 some [.bool (decide ((((V.nth r1 0).toInt):Int)≥0))]
theorem ajk {s:List V} {r:Option (List V)} (h:W4 CC s=r):CC tu [.list aa s]=r:=
 aY (key:=52) (L:=b6) (bs:=[]) (by kernel_rfl) ax (aX (by kernel_rfl) h)
noncomputable abbrev W5:Code:=cg Tryz.prog (au.aP 135)
noncomputable def zx (C:ae) (i j:Int) (ss:List V) {β:Type} (kn:(Int × Int × (List V))→Option β) (kr:(Int × Int × Bool × (List V))→Option β):Option β:=
 bif decide ((j:Int)<(ss.length:Int)) then
  bif (decide (0≤j))&&(decide (j<(ss.length:Int))) then
  (ss[(j:Int).toNat]?).bind fun x2=>
  (C mi [.int .i64 ((x2.cell 0).toInt),.int .i64 ((x2.cell 1).toInt),.list aa ((x2.cell 2).toList)]).bind fun r3=>
  bif !((V.nth r3 0).toBool) then
   bif (decide (0≤i))&&(decide (i<(ss.length:Int))) then
   (ss[(i:Int).toNat]?).bind fun x4=>
   kn (IntKind.wrap .i64 (i+1),IntKind.wrap .i64 (j+1),ss.set ((i:Int).toNat) (.agg [.int .i64 ((x2.cell 0).toInt),.int .i64 ((x2.cell 1).toInt),.list aa ((x2.cell 2).toList)]))
   else none
  else
   kn (i,IntKind.wrap .i64 (j+1),ss)
  else none
 else
  kr (i,j,decide ((j:Int)<(ss.length:Int)),ss)
noncomputable def wB (C:ae):(Int × Int × (List V))→Option ((Int × Int × (List V)) ⊕ (Int × Int × Bool × (List V))):=un fun i=>un fun j ss=>zx C i j ss (fun y=>some (.inl y)) (fun r=>some (.inr r))
noncomputable def W6 (C:ae):bZ:=fun β n ds k=>
 bif Nat.beq n 81 then bK Nz [true,true,true] [[0,0,0,0]] (@zx C) ds k else
 none
abbrev ajl (C:ae) (b:bX):Prop:=bY Tryz.prog au C (W6 C) 135 (cj Tryz.prog (au.aP 135)) (au.sin 135).ba.length b
theorem ajm (C:ae):ajl C (.loop (aw [1,1,1,0,1,0,0] W5)):=
 bN Nz [true,true,true] [[0,0,0,0]] (@zx C) (by kernel_rfl) (a8 (bs:=[]) (by kernel_rfl) ax) (fun ds=>by kernel_rfl) (fun i x=>by kernel_rfl) (fun i x β k=>by kernel_rfl) (fun β ds k=>by kernel_rfl)
noncomputable def OP (C:ae) (ss:List V):Option (List V):=
 (C sc [.list aa ss]).bind fun r1=>
 bif (((V.nth r1 0).toInt):Int)==(-1) then
  some [V.bool true,.list aa ss]
 else
  (Loop (wB C) ((V.nth r1 0).toInt,IntKind.wrap .i64 (((V.nth r1 0).toInt)+1),ss)).bind (un fun (cW:Int)=>un fun (OQ:Int)=>un fun (nc:Bool) (eW:List V)=>
   bif (decide (0≤cW))&&(decide (cW≤(eW.length:Int))) then
   bif (decide (0≤cW))&&(decide (cW≤((eW.take ((cW:Int).toNat)++(List.replicate (eW.length-((cW:Int).toNat)) (V.agg [.int .i64 0,.int .i64 0,.list aa ([]:List V)])++eW.drop (((cW:Int).toNat)+(eW.length-((cW:Int).toNat))))).length:Int))) then
    some [V.bool false,.list aa ((eW.take ((cW:Int).toNat)++(List.replicate (eW.length-((cW:Int).toNat)) (V.agg [.int .i64 0,.int .i64 0,.list aa ([]:List V)])++eW.drop (((cW:Int).toNat)+(eW.length-((cW:Int).toNat))))).take ((cW:Int).toNat))]
   else none
   else none)
theorem W7 {ss:List V} {r:Option (List V)} (h:OP CC ss=r):CC Hr [.list aa ss]=r:=
 aY (key:=135) (L:=W6 CC) (bs:=[.loop (aw [1,1,1,0,1,0,0] W5)]) (by kernel_rfl) (bq (ajm CC) ax) (aX (by kernel_rfl) h)
noncomputable abbrev W8:Code:=cg Tryz.prog (au.aP 134)
noncomputable def zy (C:ae) (s:List V) (t7 t8:Int) {β:Type} (kn:Int→Option β) (kr:((Int) ⊕ (Int × Bool))→Option β):Option β:=
 bif decide ((t8:Int)<t7) then
  (idx s t8).bind fun x1=>
  (C pk [.int .i64 ((x1.cell 0).toInt),.int .i64 ((x1.cell 1).toInt),.list aa ((x1.cell 2).toList)]).bind fun r2=>
  bif (V.nth r2 0).toBool then
  kr (.inl t8)
  else
  kn (IntKind.wrap .i64 (t8+1))
 else
  kr (.inr (t8,decide ((t8:Int)<t7)))
noncomputable def wC (C:ae) (s:List V) (t7:Int):(Int)→Option ((Int) ⊕ ((Int) ⊕ (Int × Bool))):=fun t8=>zy C s t7 t8 (fun y=>some (.inl y)) (fun r=>some (.inr r))
noncomputable def W9 (C:ae):bZ:=fun β n ds k=>
 bif Nat.beq n 33 then bK Ny [false,false,true] [[0],[1,2,0,0]] (@zy C) ds k else
 none
abbrev ajn (C:ae) (b:bX):Prop:=bY Tryz.prog au C (W9 C) 134 (cj Tryz.prog (au.aP 134)) (au.sin 134).ba.length b
theorem ajo (C:ae):ajn C (.loop (aw [1,0,1,0,0] W8)):=
 bN Ny [false,false,true] [[0],[1,2,0,0]] (@zy C) (by kernel_rfl) (a8 (bs:=[]) (by kernel_rfl) ax) (fun ds=>by kernel_rfl) (fun i x=>by kernel_rfl) (fun i x β k=>by kernel_rfl) (fun β ds k=>by kernel_rfl)
noncomputable def OR (C:ae) (s:List V):Option (List V):=
 (Loop (wC C s (s.length:Int)) 0).bind (cu (fun (jI:Int)=>
  some [.int .i64 jI]) (un fun (mn:Int) (ik:Bool)=>
  some [.int .i64 (-1)]))
theorem Xa {s:List V} {r:Option (List V)} (h:OR CC s=r):CC Hq [.list aa s]=r:=
 aY (key:=134) (L:=W9 CC) (bs:=[.loop (aw [1,0,1,0,0] W8)]) (by kernel_rfl) (bq (ajo CC) ax) (aX (by kernel_rfl) h)
noncomputable abbrev Xb:Code:=cg Tryz.prog (au.aP 133)
noncomputable def zz (C:ae) (i j:Int) (ss:List V) {β:Type} (kn:(Int × Int × (List V))→Option β) (kr:(Int × Int × Bool × (List V))→Option β):Option β:=
 bif decide ((j:Int)<(ss.length:Int)) then
  bif (decide (0≤j))&&(decide (j<(ss.length:Int))) then
  (ss[(j:Int).toNat]?).bind fun x2=>
  (C pk [.int .i64 ((x2.cell 0).toInt),.int .i64 ((x2.cell 1).toInt),.list aa ((x2.cell 2).toList)]).bind fun r3=>
  bif !((V.nth r3 0).toBool) then
   bif (decide (0≤i))&&(decide (i<(ss.length:Int))) then
   (ss[(i:Int).toNat]?).bind fun x4=>
   kn (IntKind.wrap .i64 (i+1),IntKind.wrap .i64 (j+1),ss.set ((i:Int).toNat) (.agg [.int .i64 ((x2.cell 0).toInt),.int .i64 ((x2.cell 1).toInt),.list aa ((x2.cell 2).toList)]))
   else none
  else
   kn (i,IntKind.wrap .i64 (j+1),ss)
  else none
 else
  kr (i,j,decide ((j:Int)<(ss.length:Int)),ss)
noncomputable def wD (C:ae):(Int × Int × (List V))→Option ((Int × Int × (List V)) ⊕ (Int × Int × Bool × (List V))):=un fun i=>un fun j ss=>zz C i j ss (fun y=>some (.inl y)) (fun r=>some (.inr r))
noncomputable def Xc (C:ae):bZ:=fun β n ds k=>
 bif Nat.beq n 81 then bK Nx [true,true,true] [[0,0,0,0]] (@zz C) ds k else
 none
abbrev ajp (C:ae) (b:bX):Prop:=bY Tryz.prog au C (Xc C) 133 (cj Tryz.prog (au.aP 133)) (au.sin 133).ba.length b
theorem ajq (C:ae):ajp C (.loop (aw [1,1,1,0,1,0,0] Xb)):=
 bN Nx [true,true,true] [[0,0,0,0]] (@zz C) (by kernel_rfl) (a8 (bs:=[]) (by kernel_rfl) ax) (fun ds=>by kernel_rfl) (fun i x=>by kernel_rfl) (fun i x β k=>by kernel_rfl) (fun β ds k=>by kernel_rfl)
noncomputable def OS (C:ae) (ss:List V):Option (List V):=
 (C Hq [.list aa ss]).bind fun r1=>
 bif (((V.nth r1 0).toInt):Int)==(-1) then
  some [V.bool true,.list aa ss]
 else
  (Loop (wD C) ((V.nth r1 0).toInt,IntKind.wrap .i64 (((V.nth r1 0).toInt)+1),ss)).bind (un fun (cW:Int)=>un fun (OQ:Int)=>un fun (nc:Bool) (eW:List V)=>
   bif (decide (0≤cW))&&(decide (cW≤(eW.length:Int))) then
   bif (decide (0≤cW))&&(decide (cW≤((eW.take ((cW:Int).toNat)++(List.replicate (eW.length-((cW:Int).toNat)) (V.agg [.int .i64 0,.int .i64 0,.list aa ([]:List V)])++eW.drop (((cW:Int).toNat)+(eW.length-((cW:Int).toNat))))).length:Int))) then
    some [V.bool false,.list aa ((eW.take ((cW:Int).toNat)++(List.replicate (eW.length-((cW:Int).toNat)) (V.agg [.int .i64 0,.int .i64 0,.list aa ([]:List V)])++eW.drop (((cW:Int).toNat)+(eW.length-((cW:Int).toNat))))).take ((cW:Int).toNat))]
   else none
   else none)
theorem Xd {ss:List V} {r:Option (List V)} (h:OS CC ss=r):CC Hp [.list aa ss]=r:=
 aY (key:=133) (L:=Xc CC) (bs:=[.loop (aw [1,1,1,0,1,0,0] Xb)]) (by kernel_rfl) (bq (ajq CC) ax) (aX (by kernel_rfl) h)
noncomputable abbrev Xe:Code:=cg Tryz.prog (au.aP 132)
noncomputable def zA (C:ae) (s:List V) (t7 t8:Int) {β:Type} (kn:Int→Option β) (kr:((Int) ⊕ (Int × Bool))→Option β):Option β:=
 bif decide ((t8:Int)<t7) then
  (idx s t8).bind fun x1=>
  (C lG [.int .i64 ((x1.cell 0).toInt),.int .i64 ((x1.cell 1).toInt),.list aa ((x1.cell 2).toList)]).bind fun r2=>
  bif (V.nth r2 0).toBool then
  kr (.inl t8)
  else
  kn (IntKind.wrap .i64 (t8+1))
 else
  kr (.inr (t8,decide ((t8:Int)<t7)))
noncomputable def wE (C:ae) (s:List V) (t7:Int):(Int)→Option ((Int) ⊕ ((Int) ⊕ (Int × Bool))):=fun t8=>zA C s t7 t8 (fun y=>some (.inl y)) (fun r=>some (.inr r))
noncomputable def Xf (C:ae):bZ:=fun β n ds k=>
 bif Nat.beq n 33 then bK Nw [false,false,true] [[0],[1,2,0,0]] (@zA C) ds k else
 none
abbrev ajr (C:ae) (b:bX):Prop:=bY Tryz.prog au C (Xf C) 132 (cj Tryz.prog (au.aP 132)) (au.sin 132).ba.length b
theorem ajs (C:ae):ajr C (.loop (aw [1,0,1,0,0] Xe)):=
 bN Nw [false,false,true] [[0],[1,2,0,0]] (@zA C) (by kernel_rfl) (a8 (bs:=[]) (by kernel_rfl) ax) (fun ds=>by kernel_rfl) (fun i x=>by kernel_rfl) (fun i x β k=>by kernel_rfl) (fun β ds k=>by kernel_rfl)
noncomputable def OT (C:ae) (s:List V):Option (List V):=
 (Loop (wE C s (s.length:Int)) 0).bind (cu (fun (jI:Int)=>
  some [.int .i64 jI]) (un fun (mn:Int) (ik:Bool)=>
  some [.int .i64 (-1)]))
theorem Xg {s:List V} {r:Option (List V)} (h:OT CC s=r):CC B4 [.list aa s]=r:=
 aY (key:=132) (L:=Xf CC) (bs:=[.loop (aw [1,0,1,0,0] Xe)]) (by kernel_rfl) (bq (ajs CC) ax) (aX (by kernel_rfl) h)
noncomputable def Xh (C:ae) (s:List V):Option (List V):=
 (C B4 [.list aa s]).bind fun r1=>
 some [.bool (decide ((((V.nth r1 0).toInt):Int)≥0))]
theorem ajt {s:List V} {r:Option (List V)} (h:Xh CC s=r):CC L4 [.list aa s]=r:=
 aY (key:=131) (L:=b6) (bs:=[]) (by kernel_rfl) ax (aX (by kernel_rfl) h)
noncomputable abbrev Xi:Code:=cg Tryz.prog (au.aP 75)
noncomputable def zB (C:ae) (i j:Int) (ss:List V) {β:Type} (kn:(Int × Int × (List V))→Option β) (kr:(Int × Int × Bool × (List V))→Option β):Option β:=
 bif decide ((j:Int)<(ss.length:Int)) then
  bif (decide (0≤j))&&(decide (j<(ss.length:Int))) then
  (ss[(j:Int).toNat]?).bind fun x2=>
  (C lG [.int .i64 ((x2.cell 0).toInt),.int .i64 ((x2.cell 1).toInt),.list aa ((x2.cell 2).toList)]).bind fun r3=>
  bif !((V.nth r3 0).toBool) then
   bif (decide (0≤i))&&(decide (i<(ss.length:Int))) then
   (ss[(i:Int).toNat]?).bind fun x4=>
   kn (IntKind.wrap .i64 (i+1),IntKind.wrap .i64 (j+1),ss.set ((i:Int).toNat) (.agg [.int .i64 ((x2.cell 0).toInt),.int .i64 ((x2.cell 1).toInt),.list aa ((x2.cell 2).toList)]))
   else none
  else
   kn (i,IntKind.wrap .i64 (j+1),ss)
  else none
 else
  kr (i,j,decide ((j:Int)<(ss.length:Int)),ss)
noncomputable def wF (C:ae):(Int × Int × (List V))→Option ((Int × Int × (List V)) ⊕ (Int × Int × Bool × (List V))):=un fun i=>un fun j ss=>zB C i j ss (fun y=>some (.inl y)) (fun r=>some (.inr r))
noncomputable def Xj (C:ae):bZ:=fun β n ds k=>
 bif Nat.beq n 81 then bK MT [true,true,true] [[0,0,0,0]] (@zB C) ds k else
 none
abbrev aju (C:ae) (b:bX):Prop:=bY Tryz.prog au C (Xj C) 75 (cj Tryz.prog (au.aP 75)) (au.sin 75).ba.length b
theorem ajv (C:ae):aju C (.loop (aw [1,1,1,0,1,0,0] Xi)):=
 bN MT [true,true,true] [[0,0,0,0]] (@zB C) (by kernel_rfl) (a8 (bs:=[]) (by kernel_rfl) ax) (fun ds=>by kernel_rfl) (fun i x=>by kernel_rfl) (fun i x β k=>by kernel_rfl) (fun β ds k=>by kernel_rfl)
noncomputable def OU (C:ae) (ss:List V):Option (List V):=
 (C B4 [.list aa ss]).bind fun r1=>
 bif (((V.nth r1 0).toInt):Int)==(-1) then
  some [V.bool true,.list aa ss]
 else
  (Loop (wF C) ((V.nth r1 0).toInt,IntKind.wrap .i64 (((V.nth r1 0).toInt)+1),ss)).bind (un fun (cW:Int)=>un fun (OQ:Int)=>un fun (nc:Bool) (eW:List V)=>
   bif (decide (0≤cW))&&(decide (cW≤(eW.length:Int))) then
   bif (decide (0≤cW))&&(decide (cW≤((eW.take ((cW:Int).toNat)++(List.replicate (eW.length-((cW:Int).toNat)) (V.agg [.int .i64 0,.int .i64 0,.list aa ([]:List V)])++eW.drop (((cW:Int).toNat)+(eW.length-((cW:Int).toNat))))).length:Int))) then
    some [V.bool false,.list aa ((eW.take ((cW:Int).toNat)++(List.replicate (eW.length-((cW:Int).toNat)) (V.agg [.int .i64 0,.int .i64 0,.list aa ([]:List V)])++eW.drop (((cW:Int).toNat)+(eW.length-((cW:Int).toNat))))).take ((cW:Int).toNat))]
   else none
   else none)
theorem Xk {ss:List V} {r:Option (List V)} (h:OU CC ss=r):CC yJ [.list aa ss]=r:=
 aY (key:=75) (L:=Xj CC) (bs:=[.loop (aw [1,1,1,0,1,0,0] Xi)]) (by kernel_rfl) (bq (ajv CC) ax) (aX (by kernel_rfl) h)
end Go.AM
set_option maxRecDepth 100000
namespace Go.AM
open Go.Proofs Ex
def fQ (k:Ex):Bool:=decide (k.op=1)
def gC (k:Ex):Bool:=decide (k.op=2)
theorem Ds (k:Ex):CC mi (b9 k [])=some [.bool (fQ k)]:=by
 refine VX ?_
 unfold Oi fQ
 rw[Ic]
theorem Iw (k:Ex):CC pk (b9 k [])=some [.bool (gC k)]:=by
 refine ajh ?_
 unfold WY gC
 rw[Ic]
theorem Dt (k:Ex):CC lG (b9 k [])=some [.bool (univ k)]:=by
 obtain ⟨o,l,ks⟩:=k
 refine VY ?_
 unfold Oj univ
 simp only[Ex.op,Ex.kids,dD,bt]
 by_cases h1:o=8
 ·rw[ag h1]
  match ks with
  | []=>simp
  | [k]=>
   rw[ag (by simp)]
   simp only[cr,fp,List.getElem?_cons_zero,Option.bind_some,bz,bA,bB]
   refine (congrArg (fun o=>Option.bind o _) (Ds k)).trans ?_
   simp only[h1,fQ]
   simp
   rfl
  | k::k2::ks=>
   rw[ah (by simp<;>omega)]
   simp
 ·rw[ah h1];simp[h1]
theorem lL {l:List Ex} {j:Nat} (h:j<l.length):l.take (j+1)=l.take j++[l.getD j bm]:=by
 rw[List.take_succ_eq_append_getElem h];simp[h]
theorem Du {l ss:List Ex} {j:Nat} (hl:ss.length=l.length) (h:ss.drop j=l.drop j) (hj:j<l.length):ss.getD j bm=l.getD j bm:=by
 have h1:=congrArg (fun x:List Ex=>x.getD 0 bm) h
 simpa[hj,hl] using h1
theorem pA {l:List Ex} {i:Nat} (h:i<l.length):(l.map enc)[i]? =some (l.getD i bm).enc:=by simp[h]
theorem Ix (ss:List Ex) (m:Nat) (z:V) (hm:m≤ss.length):((((ss.map enc).take m++(List.replicate ((ss.map enc).length-m) z++(ss.map enc).drop (m+((ss.map enc).length-m)))).take m)=(ss.take m).map enc):=by
 rw[List.take_append_of_le_length (by simp;omega),List.take_of_length_le (by simp;omega),List.map_take]
theorem ajw {ks:List Ex} (hlen:ks.length≤1000000): ∀(aJ pre:List Ex),ks=pre++aJ→(∀k∈pre,fQ k=false)→
  (ks.any fQ=false∧∃t,Loop (wA CC (ks.map enc) ((ks.map enc).length:Int)) ((pre.length:Nat):Int)=some (.inr t))∨
  (∃i:Nat,i<ks.length∧fQ (ks.getD i bm)=true∧(∀k∈ks.take i,fQ k=false)∧Loop (wA CC (ks.map enc) ((ks.map enc).length:Int)) ((pre.length:Nat):Int)=some (.inl (i:Int))):=by
 intro aJ
 induction aJ with
 | nil=>
  intro pre br hp
  rw[dy] at br
  subst br
  refine .inl ⟨zu hp,⟨(((ks.length:Nat):Int),false),bj ?_⟩⟩
  ·simp only[wA,zw,bt,az]
   rw[ah (by omega),cl (by omega)]
 | cons k aJ ih=>
  intro pre br hp
  have cb:pre.length<ks.length:=by rw[br];simp
  have cC:idx (ks.map enc) (pre.length:Int)=some k.enc:=by rw[br];exact jJ _ _ _
  cases hk:fQ k with
  | true=>
   refine .inr ⟨pre.length,cb,by rw[br];simpa using hk,by rw[br];simpa using hp,bj ?_⟩
   simp only[wA,zw,bt,az]
   rw[ag (by omega),cC]
   simp only[Option.bind_some,bz,bA,bB]
   refine (congrArg (fun o=>Option.bind o _) (Ds k)).trans ?_
   simp only[Option.bind_some,V.aC,V.cQ]
   rw[hk,cond_true]
  | false=>
   have bM:wA CC (ks.map enc) ((ks.map enc).length:Int) ((pre.length:Nat):Int)=some (.inl (((pre++[k]).length:Nat):Int)):=by
    simp only[wA,zw,bt,az]
    rw[ag (by omega),cC]
    simp only[Option.bind_some,bz,bA,bB]
    refine (congrArg (fun o=>Option.bind o _) (Ds k)).trans ?_
    simp only[Option.bind_some,V.aC,V.cQ]
    rw[hk,cond_false,wrap64 (by omega) (by omega)]
    simp
   rw[bW bM]
   refine ih (pre++[k]) (by rw[br];simp) fun x hx=> ?_
   rcases eJ.1 hx with hx|hx
   ·exact hp x hx
   ·rw[ew.1 hx];exact hk
theorem Xl {ks:List Ex} (hlen:ks.length≤1000000):
  (ks.any fQ=false∧CC sc [.list aa (ks.map enc)]=some [.int .i64 (-1)])∨
  (∃i:Nat,i<ks.length∧fQ (ks.getD i bm)=true∧(∀k∈ks.take i,fQ k=false)∧CC sc [.list aa (ks.map enc)]=some [.int .i64 (i:Int)]):=by
 rcases ajw hlen ks [] rfl (by simp) with ⟨h1,t,U⟩|⟨i,h1,U,h3,h4⟩
 ·refine .inl ⟨h1,W3 ?_⟩
  unfold OO
  refine (congrArg (fun o=>Option.bind o _) U).trans ?_
  rfl
 ·refine .inr ⟨i,h1,U,h3,W3 ?_⟩
  unfold OO
  refine (congrArg (fun o=>Option.bind o _) h4).trans ?_
  rfl
theorem ajx {ks:List Ex} (hlen:ks.length≤1000000):CC tu [.list aa (ks.map enc)]=some [.bool (ks.any fQ)]:=by
 refine ajk ?_
 unfold W4
 rcases Xl hlen with ⟨h1,U⟩|⟨i,h1,U,h3,h4⟩
 ·refine (congrArg (fun o=>Option.bind o _) U).trans ?_
  rw[h1];rfl
 ·refine (congrArg (fun o=>Option.bind o _) h4).trans ?_
  rw[kp.2 ⟨_,by rw[show ks.getD i bm=ks[i] by simp[h1]];exact List.getElem_mem h1,U⟩]
  simp
theorem ajy {ks:List Ex} (hn:ks.length≤1000000): ∀(d j i:Nat) (ss:List Ex),j+d=ks.length→i≤j→ss.length=ks.length→ss.take i=(ks.take j).filter (fun k=> !(fQ k))→ss.drop j=ks.drop j→
  ∃t fi,Loop (wB CC) ((i:Int),(j:Int),ss.map enc)=some (((ks.filter (fun k=> !(fQ k))).length:Int),(ks.length:Int),t,List.map enc fi)∧fi.take (ks.filter (fun k=> !(fQ k))).length=ks.filter (fun k=> !(fQ k))∧fi.length=ks.length:=by
 intro d
 induction d with
 | zero=>
  intro j i ss hj hi hl ht hd
  obtain rfl:j=ks.length:=by omega
  rw[qV] at ht
  have ia:i=(ks.filter (fun k=> !(fQ k))).length:=by rw[←ht,fT];omega
  refine ⟨false,ss,bj ?_,by rw[←ia];exact ht,hl⟩
  simp only[wB,zx,un,bt,az]
  rw[ah (by omega),cl (by omega),ia]
 | succ d ih=>
  intro j i ss hj hi hl ht hd
  have cp:j<ks.length:=by omega
  have hg:=Du hl hd cp
  have je:ss.drop (j+1)=ks.drop (j+1):=by rw[←pL,←pL,hd]
  have hx:(ss.map enc)[j]? =some (ks.getD j bm).enc:=by rw[pA (by omega),hg]
  have t1:((j:Nat):Int)<(ss.length:Int):=by omega
  have t2:(0:Int)≤((j:Nat):Int):=by omega
  have t3:((i:Nat):Int)<(ss.length:Int):=by omega
  have t4:(0:Int)≤((i:Nat):Int):=by omega
  have cC: ∃y,(ss.map enc)[i]? =some y:=⟨_,pA (by omega)⟩
  obtain ⟨y,hy⟩:=cC
  cases hk:fQ (ks.getD j bm) with
  | true=>
   have bM:wB CC ((i:Int),(j:Int),ss.map enc)=some (.inl ((i:Int),((j+1:Nat):Int),ss.map enc)):=by
    simp only[wB,zx,un,bt,az,ct,t1,t2,cU,Int.toNat_natCast,hx,Option.bind_some,bz,bA,bB]
    refine (congrArg (fun o=>Option.bind o _) (Ds (ks.getD j bm))).trans ?_
    simp only[Option.bind_some,V.aC,V.cQ]
    rw[hk,qX,cond_false,wrap64 (by omega) (by omega)]
    rfl
   rw[bW bM]
   refine ih (j+1) i ss (by omega) (by omega) hl ?_ je
   rw[lL cp,nC,ht,pM,hk]
   simp
  | false=>
   have bM:wB CC ((i:Int),(j:Int),ss.map enc)=some (.inl (((i+1:Nat):Int),((j+1:Nat):Int),(ss.set i (ks.getD j bm)).map enc)):=by
    simp only[wB,zx,un,bt,az,ct,t1,t2,t3,t4,cU,Int.toNat_natCast,hx,hy,Option.bind_some,bz,bA,bB]
    refine (congrArg (fun o=>Option.bind o _) (Ds (ks.getD j bm))).trans ?_
    simp only[Option.bind_some,V.aC,V.cQ]
    rw[hk,uw,cond_true,wrap64 (by omega) (by omega),wrap64 (by omega) (by omega),←eY,Aw]
    rfl
   rw[bW bM]
   refine ih (j+1) (i+1) (ss.set i (ks.getD j bm)) (by omega) (by omega) (by simpa using hl) ?_ ?_
   ·rw[lL (by rw[ny];omega),ES (bV i),ht,lL cp,nC,pM,hk]
    simp[show i<ss.length by omega]
   ·rw[ET (by omega),je]
theorem ajz {ks:List Ex} (hn:ks.length≤1000000): ∃b,CC Hr [.list aa (ks.map enc)]=some [.bool b,.list aa ((ks.filter (fun k=> !(fQ k))).map enc)]:=by
 rcases Xl hn with ⟨h1,U⟩|⟨i,h1,U,h3,h4⟩
 ·refine ⟨true,W7 ?_⟩
  unfold OP
  refine (congrArg (fun o=>Option.bind o _) U).trans ?_
  rw[oO.2 fun k hk=>show (!(fQ k))=true by rw[any_false (p:=fQ) (by rw[h1];simp) k hk];rfl]
  rfl
 ·have hf:(ks.take (i+1)).filter (fun k=> !(fQ k))=ks.take i:=by
   rw[lL h1,nC,pM,U,oO.2 fun k hk=>show (!(fQ k))=true by rw[h3 k hk];rfl]
   simp
  obtain ⟨t,fi,e1,e2,e3⟩:=ajy hn (ks.length-(i+1)) (i+1) i ks (by omega) (by omega) rfl hf.symm rfl
  refine ⟨false,W7 ?_⟩
  unfold OP
  refine (congrArg (fun o=>Option.bind o _) h4).trans ?_
  simp only[Option.bind_some,V.aC,V.toInt_int,dD]
  rw[ah (by omega),wrap64 (by omega) (by omega)]
  refine (congrArg (fun o=>Option.bind o _) e1).trans ?_
  have hm:(ks.filter (fun k=> !(fQ k))).length≤fi.length:=by rw[e3];exact uy _ _
  have t1:((((ks.filter (fun k=> !(fQ k))).length:Nat):Int)≤((fi.map enc).length:Int)):=by rw[bt];omega
  simp only[Option.bind_some,un,ct,az,Int.toNat_natCast]
  rw[ag (by omega),ag t1,ag (by omega),ag (by simp only[cB,fT,uu,ur];omega),Ix _ _ _ hm,e2]
theorem ajA {ks:List Ex} (hlen:ks.length≤1000000): ∀(aJ pre:List Ex),ks=pre++aJ→(∀k∈pre,gC k=false)→
  (ks.any gC=false∧∃t,Loop (wC CC (ks.map enc) ((ks.map enc).length:Int)) ((pre.length:Nat):Int)=some (.inr t))∨
  (∃i:Nat,i<ks.length∧gC (ks.getD i bm)=true∧(∀k∈ks.take i,gC k=false)∧Loop (wC CC (ks.map enc) ((ks.map enc).length:Int)) ((pre.length:Nat):Int)=some (.inl (i:Int))):=by
 intro aJ
 induction aJ with
 | nil=>
  intro pre br hp
  rw[dy] at br
  subst br
  refine .inl ⟨zu hp,⟨(((ks.length:Nat):Int),false),bj ?_⟩⟩
  ·simp only[wC,zy,bt,az]
   rw[ah (by omega),cl (by omega)]
 | cons k aJ ih=>
  intro pre br hp
  have cb:pre.length<ks.length:=by rw[br];simp
  have cC:idx (ks.map enc) (pre.length:Int)=some k.enc:=by rw[br];exact jJ _ _ _
  cases hk:gC k with
  | true=>
   refine .inr ⟨pre.length,cb,by rw[br];simpa using hk,by rw[br];simpa using hp,bj ?_⟩
   simp only[wC,zy,bt,az]
   rw[ag (by omega),cC]
   simp only[Option.bind_some,bz,bA,bB]
   refine (congrArg (fun o=>Option.bind o _) (Iw k)).trans ?_
   simp only[Option.bind_some,V.aC,V.cQ]
   rw[hk,cond_true]
  | false=>
   have bM:wC CC (ks.map enc) ((ks.map enc).length:Int) ((pre.length:Nat):Int)=some (.inl (((pre++[k]).length:Nat):Int)):=by
    simp only[wC,zy,bt,az]
    rw[ag (by omega),cC]
    simp only[Option.bind_some,bz,bA,bB]
    refine (congrArg (fun o=>Option.bind o _) (Iw k)).trans ?_
    simp only[Option.bind_some,V.aC,V.cQ]
    rw[hk,cond_false,wrap64 (by omega) (by omega)]
    simp
   rw[bW bM]
   refine ih (pre++[k]) (by rw[br];simp) fun x hx=> ?_
   rcases eJ.1 hx with hx|hx
   ·exact hp x hx
   ·rw[ew.1 hx];exact hk
theorem ajB {ks:List Ex} (hlen:ks.length≤1000000):
  (ks.any gC=false∧CC Hq [.list aa (ks.map enc)]=some [.int .i64 (-1)])∨
  (∃i:Nat,i<ks.length∧gC (ks.getD i bm)=true∧(∀k∈ks.take i,gC k=false)∧CC Hq [.list aa (ks.map enc)]=some [.int .i64 (i:Int)]):=by
 rcases ajA hlen ks [] rfl (by simp) with ⟨h1,t,U⟩|⟨i,h1,U,h3,h4⟩
 ·refine .inl ⟨h1,Xa ?_⟩
  unfold OR
  refine (congrArg (fun o=>Option.bind o _) U).trans ?_
  rfl
 ·refine .inr ⟨i,h1,U,h3,Xa ?_⟩
  unfold OR
  refine (congrArg (fun o=>Option.bind o _) h4).trans ?_
  rfl
theorem ajC {ks:List Ex} (hn:ks.length≤1000000): ∀(d j i:Nat) (ss:List Ex),j+d=ks.length→i≤j→ss.length=ks.length→ss.take i=(ks.take j).filter (fun k=> !(gC k))→ss.drop j=ks.drop j→
  ∃t fi,Loop (wD CC) ((i:Int),(j:Int),ss.map enc)=some (((ks.filter (fun k=> !(gC k))).length:Int),(ks.length:Int),t,List.map enc fi)∧fi.take (ks.filter (fun k=> !(gC k))).length=ks.filter (fun k=> !(gC k))∧fi.length=ks.length:=by
 intro d
 induction d with
 | zero=>
  intro j i ss hj hi hl ht hd
  obtain rfl:j=ks.length:=by omega
  rw[qV] at ht
  have ia:i=(ks.filter (fun k=> !(gC k))).length:=by rw[←ht,fT];omega
  refine ⟨false,ss,bj ?_,by rw[←ia];exact ht,hl⟩
  simp only[wD,zz,un,bt,az]
  rw[ah (by omega),cl (by omega),ia]
 | succ d ih=>
  intro j i ss hj hi hl ht hd
  have cp:j<ks.length:=by omega
  have hg:=Du hl hd cp
  have je:ss.drop (j+1)=ks.drop (j+1):=by rw[←pL,←pL,hd]
  have hx:(ss.map enc)[j]? =some (ks.getD j bm).enc:=by rw[pA (by omega),hg]
  have t1:((j:Nat):Int)<(ss.length:Int):=by omega
  have t2:(0:Int)≤((j:Nat):Int):=by omega
  have t3:((i:Nat):Int)<(ss.length:Int):=by omega
  have t4:(0:Int)≤((i:Nat):Int):=by omega
  have cC: ∃y,(ss.map enc)[i]? =some y:=⟨_,pA (by omega)⟩
  obtain ⟨y,hy⟩:=cC
  cases hk:gC (ks.getD j bm) with
  | true=>
   have bM:wD CC ((i:Int),(j:Int),ss.map enc)=some (.inl ((i:Int),((j+1:Nat):Int),ss.map enc)):=by
    simp only[wD,zz,un,bt,az,ct,t1,t2,cU,Int.toNat_natCast,hx,Option.bind_some,bz,bA,bB]
    refine (congrArg (fun o=>Option.bind o _) (Iw (ks.getD j bm))).trans ?_
    simp only[Option.bind_some,V.aC,V.cQ]
    rw[hk,qX,cond_false,wrap64 (by omega) (by omega)]
    rfl
   rw[bW bM]
   refine ih (j+1) i ss (by omega) (by omega) hl ?_ je
   rw[lL cp,nC,ht,pM,hk]
   simp
  | false=>
   have bM:wD CC ((i:Int),(j:Int),ss.map enc)=some (.inl (((i+1:Nat):Int),((j+1:Nat):Int),(ss.set i (ks.getD j bm)).map enc)):=by
    simp only[wD,zz,un,bt,az,ct,t1,t2,t3,t4,cU,Int.toNat_natCast,hx,hy,Option.bind_some,bz,bA,bB]
    refine (congrArg (fun o=>Option.bind o _) (Iw (ks.getD j bm))).trans ?_
    simp only[Option.bind_some,V.aC,V.cQ]
    rw[hk,uw,cond_true,wrap64 (by omega) (by omega),wrap64 (by omega) (by omega),←eY,Aw]
    rfl
   rw[bW bM]
   refine ih (j+1) (i+1) (ss.set i (ks.getD j bm)) (by omega) (by omega) (by simpa using hl) ?_ ?_
   ·rw[lL (by rw[ny];omega),ES (bV i),ht,lL cp,nC,pM,hk]
    simp[show i<ss.length by omega]
   ·rw[ET (by omega),je]
theorem ajD {ks:List Ex} (hn:ks.length≤1000000): ∃b,CC Hp [.list aa (ks.map enc)]=some [.bool b,.list aa ((ks.filter (fun k=> !(gC k))).map enc)]:=by
 rcases ajB hn with ⟨h1,U⟩|⟨i,h1,U,h3,h4⟩
 ·refine ⟨true,Xd ?_⟩
  unfold OS
  refine (congrArg (fun o=>Option.bind o _) U).trans ?_
  rw[oO.2 fun k hk=>show (!(gC k))=true by rw[any_false (p:=gC) (by rw[h1];simp) k hk];rfl]
  rfl
 ·have hf:(ks.take (i+1)).filter (fun k=> !(gC k))=ks.take i:=by
   rw[lL h1,nC,pM,U,oO.2 fun k hk=>show (!(gC k))=true by rw[h3 k hk];rfl]
   simp
  obtain ⟨t,fi,e1,e2,e3⟩:=ajC hn (ks.length-(i+1)) (i+1) i ks (by omega) (by omega) rfl hf.symm rfl
  refine ⟨false,Xd ?_⟩
  unfold OS
  refine (congrArg (fun o=>Option.bind o _) h4).trans ?_
  simp only[Option.bind_some,V.aC,V.toInt_int,dD]
  rw[ah (by omega),wrap64 (by omega) (by omega)]
  refine (congrArg (fun o=>Option.bind o _) e1).trans ?_
  have hm:(ks.filter (fun k=> !(gC k))).length≤fi.length:=by rw[e3];exact uy _ _
  have t1:((((ks.filter (fun k=> !(gC k))).length:Nat):Int)≤((fi.map enc).length:Int)):=by rw[bt];omega
  simp only[Option.bind_some,un,ct,az,Int.toNat_natCast]
  rw[ag (by omega),ag t1,ag (by omega),ag (by simp only[cB,fT,uu,ur];omega),Ix _ _ _ hm,e2]
theorem ajE {ks:List Ex} (hlen:ks.length≤1000000): ∀(aJ pre:List Ex),ks=pre++aJ→(∀k∈pre,univ k=false)→
  (ks.any univ=false∧∃t,Loop (wE CC (ks.map enc) ((ks.map enc).length:Int)) ((pre.length:Nat):Int)=some (.inr t))∨
  (∃i:Nat,i<ks.length∧univ (ks.getD i bm)=true∧(∀k∈ks.take i,univ k=false)∧Loop (wE CC (ks.map enc) ((ks.map enc).length:Int)) ((pre.length:Nat):Int)=some (.inl (i:Int))):=by
 intro aJ
 induction aJ with
 | nil=>
  intro pre br hp
  rw[dy] at br
  subst br
  refine .inl ⟨zu hp,⟨(((ks.length:Nat):Int),false),bj ?_⟩⟩
  ·simp only[wE,zA,bt,az]
   rw[ah (by omega),cl (by omega)]
 | cons k aJ ih=>
  intro pre br hp
  have cb:pre.length<ks.length:=by rw[br];simp
  have cC:idx (ks.map enc) (pre.length:Int)=some k.enc:=by rw[br];exact jJ _ _ _
  cases hk:univ k with
  | true=>
   refine .inr ⟨pre.length,cb,by rw[br];simpa using hk,by rw[br];simpa using hp,bj ?_⟩
   simp only[wE,zA,bt,az]
   rw[ag (by omega),cC]
   simp only[Option.bind_some,bz,bA,bB]
   refine (congrArg (fun o=>Option.bind o _) (Dt k)).trans ?_
   simp only[Option.bind_some,V.aC,V.cQ]
   rw[hk,cond_true]
  | false=>
   have bM:wE CC (ks.map enc) ((ks.map enc).length:Int) ((pre.length:Nat):Int)=some (.inl (((pre++[k]).length:Nat):Int)):=by
    simp only[wE,zA,bt,az]
    rw[ag (by omega),cC]
    simp only[Option.bind_some,bz,bA,bB]
    refine (congrArg (fun o=>Option.bind o _) (Dt k)).trans ?_
    simp only[Option.bind_some,V.aC,V.cQ]
    rw[hk,cond_false,wrap64 (by omega) (by omega)]
    simp
   rw[bW bM]
   refine ih (pre++[k]) (by rw[br];simp) fun x hx=> ?_
   rcases eJ.1 hx with hx|hx
   ·exact hp x hx
   ·rw[ew.1 hx];exact hk
theorem Xm {ks:List Ex} (hlen:ks.length≤1000000):
  (ks.any univ=false∧CC B4 [.list aa (ks.map enc)]=some [.int .i64 (-1)])∨
  (∃i:Nat,i<ks.length∧univ (ks.getD i bm)=true∧(∀k∈ks.take i,univ k=false)∧CC B4 [.list aa (ks.map enc)]=some [.int .i64 (i:Int)]):=by
 rcases ajE hlen ks [] rfl (by simp) with ⟨h1,t,U⟩|⟨i,h1,U,h3,h4⟩
 ·refine .inl ⟨h1,Xg ?_⟩
  unfold OT
  refine (congrArg (fun o=>Option.bind o _) U).trans ?_
  rfl
 ·refine .inr ⟨i,h1,U,h3,Xg ?_⟩
  unfold OT
  refine (congrArg (fun o=>Option.bind o _) h4).trans ?_
  rfl
theorem ajF {ks:List Ex} (hlen:ks.length≤1000000):CC L4 [.list aa (ks.map enc)]=some [.bool (ks.any univ)]:=by
 refine ajt ?_
 unfold Xh
 rcases Xm hlen with ⟨h1,U⟩|⟨i,h1,U,h3,h4⟩
 ·refine (congrArg (fun o=>Option.bind o _) U).trans ?_
  rw[h1];rfl
 ·refine (congrArg (fun o=>Option.bind o _) h4).trans ?_
  rw[kp.2 ⟨_,by rw[show ks.getD i bm=ks[i] by simp[h1]];exact List.getElem_mem h1,U⟩]
  simp
theorem ajG {ks:List Ex} (hn:ks.length≤1000000): ∀(d j i:Nat) (ss:List Ex),j+d=ks.length→i≤j→ss.length=ks.length→ss.take i=(ks.take j).filter (fun k=> !(univ k))→ss.drop j=ks.drop j→
  ∃t fi,Loop (wF CC) ((i:Int),(j:Int),ss.map enc)=some (((ks.filter (fun k=> !(univ k))).length:Int),(ks.length:Int),t,List.map enc fi)∧fi.take (ks.filter (fun k=> !(univ k))).length=ks.filter (fun k=> !(univ k))∧fi.length=ks.length:=by
 intro d
 induction d with
 | zero=>
  intro j i ss hj hi hl ht hd
  obtain rfl:j=ks.length:=by omega
  rw[qV] at ht
  have ia:i=(ks.filter (fun k=> !(univ k))).length:=by rw[←ht,fT];omega
  refine ⟨false,ss,bj ?_,by rw[←ia];exact ht,hl⟩
  simp only[wF,zB,un,bt,az]
  rw[ah (by omega),cl (by omega),ia]
 | succ d ih=>
  intro j i ss hj hi hl ht hd
  have cp:j<ks.length:=by omega
  have hg:=Du hl hd cp
  have je:ss.drop (j+1)=ks.drop (j+1):=by rw[←pL,←pL,hd]
  have hx:(ss.map enc)[j]? =some (ks.getD j bm).enc:=by rw[pA (by omega),hg]
  have t1:((j:Nat):Int)<(ss.length:Int):=by omega
  have t2:(0:Int)≤((j:Nat):Int):=by omega
  have t3:((i:Nat):Int)<(ss.length:Int):=by omega
  have t4:(0:Int)≤((i:Nat):Int):=by omega
  have cC: ∃y,(ss.map enc)[i]? =some y:=⟨_,pA (by omega)⟩
  obtain ⟨y,hy⟩:=cC
  cases hk:univ (ks.getD j bm) with
  | true=>
   have bM:wF CC ((i:Int),(j:Int),ss.map enc)=some (.inl ((i:Int),((j+1:Nat):Int),ss.map enc)):=by
    simp only[wF,zB,un,bt,az,ct,t1,t2,cU,Int.toNat_natCast,hx,Option.bind_some,bz,bA,bB]
    refine (congrArg (fun o=>Option.bind o _) (Dt (ks.getD j bm))).trans ?_
    simp only[Option.bind_some,V.aC,V.cQ]
    rw[hk,qX,cond_false,wrap64 (by omega) (by omega)]
    rfl
   rw[bW bM]
   refine ih (j+1) i ss (by omega) (by omega) hl ?_ je
   rw[lL cp,nC,ht,pM,hk]
   simp
  | false=>
   have bM:wF CC ((i:Int),(j:Int),ss.map enc)=some (.inl (((i+1:Nat):Int),((j+1:Nat):Int),(ss.set i (ks.getD j bm)).map enc)):=by
    simp only[wF,zB,un,bt,az,ct,t1,t2,t3,t4,cU,Int.toNat_natCast,hx,hy,Option.bind_some,bz,bA,bB]
    refine (congrArg (fun o=>Option.bind o _) (Dt (ks.getD j bm))).trans ?_
    simp only[Option.bind_some,V.aC,V.cQ]
    rw[hk,uw,cond_true,wrap64 (by omega) (by omega),wrap64 (by omega) (by omega),←eY,Aw]
    rfl
   rw[bW bM]
   refine ih (j+1) (i+1) (ss.set i (ks.getD j bm)) (by omega) (by omega) (by simpa using hl) ?_ ?_
   ·rw[lL (by rw[ny];omega),ES (bV i),ht,lL cp,nC,pM,hk]
    simp[show i<ss.length by omega]
   ·rw[ET (by omega),je]
theorem ajH {ks:List Ex} (hn:ks.length≤1000000): ∃b,CC yJ [.list aa (ks.map enc)]=some [.bool b,.list aa ((ks.filter (fun k=> !(univ k))).map enc)]:=by
 rcases Xm hn with ⟨h1,U⟩|⟨i,h1,U,h3,h4⟩
 ·refine ⟨true,Xk ?_⟩
  unfold OU
  refine (congrArg (fun o=>Option.bind o _) U).trans ?_
  rw[oO.2 fun k hk=>show (!(univ k))=true by rw[any_false (p:=univ) (by rw[h1];simp) k hk];rfl]
  rfl
 ·have hf:(ks.take (i+1)).filter (fun k=> !(univ k))=ks.take i:=by
   rw[lL h1,nC,pM,U,oO.2 fun k hk=>show (!(univ k))=true by rw[h3 k hk];rfl]
   simp
  obtain ⟨t,fi,e1,e2,e3⟩:=ajG hn (ks.length-(i+1)) (i+1) i ks (by omega) (by omega) rfl hf.symm rfl
  refine ⟨false,Xk ?_⟩
  unfold OU
  refine (congrArg (fun o=>Option.bind o _) h4).trans ?_
  simp only[Option.bind_some,V.aC,V.toInt_int,dD]
  rw[ah (by omega),wrap64 (by omega) (by omega)]
  refine (congrArg (fun o=>Option.bind o _) e1).trans ?_
  have hm:(ks.filter (fun k=> !(univ k))).length≤fi.length:=by rw[e3];exact uy _ _
  have t1:((((ks.filter (fun k=> !(univ k))).length:Nat):Int)≤((fi.map enc).length:Int)):=by rw[bt];omega
  simp only[Option.bind_some,un,ct,az,Int.toNat_natCast]
  rw[ag (by omega),ag t1,ag (by omega),ag (by simp only[cB,fT,uu,ur];omega),Ix _ _ _ hm,e2]
end Go.AM
set_option maxRecDepth 100000
namespace Go.AM
open Go.Proofs Go.Sort
section
variable {α:Type} {enc:α→V}
def qI (enc:α→V) (d:Array α):List V:=d.toList.map enc
theorem gi (d:Array α):(qI enc d).length=d.size:=by simp[qI]
theorem gj (d:Array α) (i:Nat) (x:α):(qI enc d).set i (enc x)=qI enc (d.setIfInBounds i x):=by
 unfold qI;rw[Array.toList_setIfInBounds,Aw]
variable [Inhabited α]
theorem gk {d:Array α} {i:Nat} (h:i<d.size):(qI enc d)[i]? =some (enc d[i]!):=by
 unfold qI;rw[fU,sM,lh h,getElem!_pos d i h];rfl
theorem iR {d:Array α} {i j:Nat} {x:α} (h:i<d.size):(qI enc (d.setIfInBounds j x))[i]? =some (enc (d.setIfInBounds j x)[i]!):=gk (by rw[gX];exact h)
theorem gl (a b:Nat):(a:Int)+(b:Int)=((a+b:Nat):Int):=(Int.natCast_add a b).symm
theorem dV (a:Nat):(a:Int)+1=((a+1:Nat):Int):=rfl
theorem wG (a:Nat):((a+1:Nat):Int)-1=(a:Int):=by omega
theorem Dw (a:Nat):(a:Int)*2=((a*2:Nat):Int):=by omega
theorem nk {a b:Nat} (h:b≤a):(a:Int)-(b:Int)=((a-b:Nat):Int):=by omega
theorem kW {a:Nat} (h:1≤a):(a:Int)-1=((a-1:Nat):Int):=by omega
theorem divC (a b:Nat):Int.tdiv (a:Int) (b:Int)=((a/b:Nat):Int):=by rw[Int.tdiv_eq_ediv_of_nonneg (by omega)];rfl
theorem ou {p:Prop} [Decidable p] (h:p):decide p=true:=eK h
theorem tW {p:Prop} [Decidable p] (h: ¬p):decide p=false:=cl h
variable {lt:α→α→Bool}
theorem Xn (a j:Nat) (d:Array α):insInner lt a (j+1) d=if j+1>a&&lt d[j+1]! d[j]! then insInner lt a j (swp d (j+1) j) else d:=rfl
theorem OV {a:Nat}: ∀(j:Nat) (d:Array α),(insInner lt a j d).size=d.size
 | 0,d=>rfl
 | j+1,d=>by
  rw[Xn]
  split
  ·rw[OV j,size_swp]
  ·rfl
theorem Dx (hi first:Nat): ∀(n root:Nat) (d:Array α),hi-root≤n→(siftDown lt hi first root d).size=d.size:=by
 intro n
 induction n with
 | zero=>intro root d h;rw[siftDown,sJ (by omega)]
 | succ n ih=>
  intro root d h
  rw[siftDown]
  split
  ·rfl
  ·split
   ·split
    ·rfl
    ·split
     ·rw[ih _ _ (by omega),size_swp]
     ·rfl
   ·split
    ·rfl
    ·rw[ih _ _ (by omega),size_swp]
theorem OW (hi first:Nat): ∀(k:Nat) (d:Array α),(heapBuild lt hi first k d).size=d.size
 | 0,d=>rfl
 | k+1,d=>by rw[heapBuild,OW,Dx _ _ _ _ _ (bV _)]
end
end Go.AM
set_option maxRecDepth 100000
namespace Go.AM.SX
open Go.Proofs Ex
structure XE where
 e:Ex
 ok:e.Ok
instance:Inhabited XE:=⟨⟨.node 0 0 [],.node (by omega) (by omega) (by simp) (by simp)⟩⟩
namespace XE
def enc (x:XE):V:=x.e.enc
theorem bz (x:XE):(x.enc.cell 0).toInt=x.e.op:=Go.AM.bz x.e
theorem bA (x:XE):(x.enc.cell 1).toInt=x.e.letter:=Go.AM.bA x.e
theorem bB (x:XE):(x.enc.cell 2).toList=x.e.kids.map Ex.enc:=Go.AM.bB x.e
theorem re (x:XE):V.agg [.int .i64 x.e.op,.int .i64 x.e.letter,.list aa (x.e.kids.map Ex.enc)]=x.enc:=(Ex.eY x.e).symm
end XE
def b8 (a b:XE):Int:=cmp a.e b.e
theorem gS (a b:XE):CC bp [.int .i64 a.e.op,.int .i64 a.e.letter,.list aa (a.e.kids.map Ex.enc),.int .i64 b.e.op,.int .i64 b.e.letter,.list aa (b.e.kids.map Ex.enc)]=some [.int .i64 (b8 a b)]:=
 WC a.e a.ok b.e b.ok
def XE.lt (a b:XE):Prop:=b8 a b<0
theorem XE.lt_irrefl (a:XE): ¬a.lt a:=by unfold XE.lt b8;rw[Dj];omega
theorem ajI {a b c:Ex} (h1:cmp a b<0) (U:cmp b c<0):cmp a c<0:=by
 have h3:=OA a b c (by omega) (by omega)
 refine Decidable.byContradiction fun h=> ?_
 have h0:cmp a c=0:=by omega
 have:=wo a c h0
 subst this
 have:=tS a b
 omega
theorem XE.lt_trans {a b c:XE} (h1:a.lt b) (U:b.lt c):a.lt c:=ajI h1 U
theorem XE.ajJ {a b c:XE} (h1: ¬a.lt b) (U: ¬b.lt c): ¬a.lt c:=by
 unfold XE.lt b8 at*
 have a1:=tS a.e b.e
 have a2:=tS b.e c.e
 have a3:=tS a.e c.e
 have:=OA c.e b.e a.e (by omega) (by omega)
 omega
end Go.AM.SX
set_option maxRecDepth 100000
namespace Go.AM
open Go.Proofs
noncomputable abbrev Iy:Code:=cg Tryz.prog (au.aP 93)
noncomputable def zC (C:ae) (a b' i j:Int) (ak:List V) {β:Type} (kn:(Int × (List V))→Option β) (kr:(Int × Bool × (List V))→Option β):Option β:=
 bif decide ((j:Int)>a) then
  bif (decide (0≤j))&&(decide (j<(ak.length:Int))) then
  (ak[(j:Int).toNat]?).bind fun x1=>
  bif (decide (0≤(IntKind.wrap .i64 (j-1))))&&(decide ((IntKind.wrap .i64 (j-1))<(ak.length:Int))) then
   (ak[(IntKind.wrap .i64 (j-1):Int).toNat]?).bind fun x2=>
   (C bp [.int .i64 ((x1.cell 0).toInt),.int .i64 ((x1.cell 1).toInt),.list aa ((x1.cell 2).toList),.int .i64 ((x2.cell 0).toInt),.int .i64 ((x2.cell 1).toInt),.list aa ((x2.cell 2).toList)]).bind fun r3=>
   bif decide ((((V.nth r3 0).toInt):Int)<0) then
   bif (decide (0≤(IntKind.wrap .i64 (j-1))))&&(decide ((IntKind.wrap .i64 (j-1))<(ak.length:Int))) then
    (ak[(IntKind.wrap .i64 (j-1):Int).toNat]?).bind fun x4=>
    bif (decide (0≤j))&&(decide (j<(ak.length:Int))) then
    (ak[(j:Int).toNat]?).bind fun x5=>
    bif (decide (0≤j))&&(decide (j<(ak.length:Int))) then
     (ak[(j:Int).toNat]?).bind fun x6=>
     bif (decide (0≤(IntKind.wrap .i64 (j-1))))&&(decide ((IntKind.wrap .i64 (j-1))<((ak.set ((j:Int).toNat) (.agg [.int .i64 ((x4.cell 0).toInt),.int .i64 ((x4.cell 1).toInt),.list aa ((x4.cell 2).toList)])).length:Int))) then
     ((ak.set ((j:Int).toNat) (.agg [.int .i64 ((x4.cell 0).toInt),.int .i64 ((x4.cell 1).toInt),.list aa ((x4.cell 2).toList)]))[(IntKind.wrap .i64 (j-1):Int).toNat]?).bind fun x7=>
     kn (IntKind.wrap .i64 (j-1),(ak.set ((j:Int).toNat) (.agg [.int .i64 ((x4.cell 0).toInt),.int .i64 ((x4.cell 1).toInt),.list aa ((x4.cell 2).toList)])).set ((IntKind.wrap .i64 (j-1):Int).toNat) (.agg [.int .i64 ((x5.cell 0).toInt),.int .i64 ((x5.cell 1).toInt),.list aa ((x5.cell 2).toList)]))
     else none
    else none
    else none
   else none
   else
   kr (j,decide ((((V.nth r3 0).toInt):Int)<0),ak)
  else none
  else none
 else
  kr (j,false,ak)
noncomputable def zD (C:ae) (a b' i:Int):(Int × (List V))→Option ((Int × (List V)) ⊕ (Int × Bool × (List V))):=un fun j ak=>zC C a b' i j ak (fun y=>some (.inl y)) (fun r=>some (.inr r))
noncomputable def Dy (C:ae) (a b' i:Int) (ak:List V) {β:Type} (kn:(Int × (List V))→Option β) (kr:(Int × Bool × (List V))→Option β):Option β:=
 bif decide ((i:Int)<b') then
  (Loop (zD C a b' i) (i,ak)).bind (un fun (j_8:Int)=>un fun (oj:Bool) (pB:List V)=>
   kn (IntKind.wrap .i64 (i+1),pB))
 else
  kr (i,decide ((i:Int)<b'),ak)
noncomputable def Iz (C:ae) (a b':Int):(Int × (List V))→Option ((Int × (List V)) ⊕ (Int × Bool × (List V))):=un fun i ak=>Dy C a b' i ak (fun y=>some (.inl y)) (fun r=>some (.inr r))
noncomputable def Xo (C:ae):bZ:=fun β n ds k=>
 bif Nat.beq n 65 then bK M3 [false,false,false,true,true] [[1,2,3,0,0,0]] (@zC C) ds k else
 bif Nat.beq n 17 then bK M4 [false,false,true,true] [[1,2,0,0,0]] (@Dy C) ds k else
 none
abbrev Xp (C:ae) (b:bX):Prop:=bY Tryz.prog au C (Xo C) 93 (cj Tryz.prog (au.aP 93)) (au.sin 93).ba.length b
theorem ajK (C:ae):Xp C (.loop (aw [1,0,0,1,0,0,1,0,0] Iy)):=
 bN M3 [false,false,false,true,true] [[1,2,3,0,0,0]] (@zC C) (by kernel_rfl) (a8 (bs:=[]) (by kernel_rfl) ax) (fun ds=>by kernel_rfl) (fun i x=>by kernel_rfl) (fun i x β k=>by kernel_rfl) (fun β ds k=>by kernel_rfl)
theorem ajL (C:ae):Xp C (.loop (aw [1,0,0] Iy)):=
 bN M4 [false,false,true,true] [[1,2,0,0,0]] (@Dy C) (by kernel_rfl) (a8 (bs:=[.loop (aw [1,0,0,1,0,0,1,0,0] Iy)]) (by kernel_rfl) (bq (ajK C) ax)) (fun ds=>by kernel_rfl) (fun i x=>by kernel_rfl) (fun i x β k=>by kernel_rfl) (fun β ds k=>by kernel_rfl)
noncomputable def Xq (C:ae) (a b':Int) (ak:List V):Option (List V):=
 (Loop (Iz C a b') (IntKind.wrap .i64 (a+1),ak)).bind (un fun (apk:Int)=>un fun (Ch:Bool) (OX:List V)=>
  some [.list aa OX])
theorem ajM {a b':Int} {ak:List V} {r:Option (List V)} (h:Xq CC a b' ak=r):CC BW [.int .i64 a,.int .i64 b',.list aa ak]=r:=
 aY (key:=93) (L:=Xo CC) (bs:=[.loop (aw [1,0,0] Iy)]) (by kernel_rfl) (bq (ajL CC) ax) (aX (by kernel_rfl) h)
noncomputable abbrev zF:Code:=cg Tryz.prog (au.aP 104)
noncomputable def wH (C:ae) (hi first root child:Int) (t40:Bool) (ak:List V) {β:Type} (kr:(Int)→Option β):Option β:=
 bif t40 then
  kr (IntKind.wrap .i64 (child+1))
 else
  kr child
noncomputable def tX (C:ae) (hi first root:Int) (ak:List V) {β:Type} (kn:(Int × (List V))→Option β) (kr:((Int × Int × Bool × (List V)) ⊕ (Int × Int × Bool × (List V)))→Option β):Option β:=
 bif decide (((IntKind.wrap .i64 ((IntKind.wrap .i64 (root*2))+1)):Int)≥hi) then
  kr (.inl (root,IntKind.wrap .i64 ((IntKind.wrap .i64 (root*2))+1),decide (((IntKind.wrap .i64 ((IntKind.wrap .i64 (root*2))+1)):Int)≥hi),ak))
 else
  bif decide (((IntKind.wrap .i64 ((IntKind.wrap .i64 ((IntKind.wrap .i64 (root*2))+1))+1)):Int)<hi) then
  bif (decide (0≤(IntKind.wrap .i64 (first+(IntKind.wrap .i64 ((IntKind.wrap .i64 (root*2))+1))))))&&(decide ((IntKind.wrap .i64 (first+(IntKind.wrap .i64 ((IntKind.wrap .i64 (root*2))+1))))<(ak.length:Int))) then
   (ak[(IntKind.wrap .i64 (first+(IntKind.wrap .i64 ((IntKind.wrap .i64 (root*2))+1))):Int).toNat]?).bind fun x1=>
   bif (decide (0≤(IntKind.wrap .i64 ((IntKind.wrap .i64 (first+(IntKind.wrap .i64 ((IntKind.wrap .i64 (root*2))+1))))+1))))&&(decide ((IntKind.wrap .i64 ((IntKind.wrap .i64 (first+(IntKind.wrap .i64 ((IntKind.wrap .i64 (root*2))+1))))+1))<(ak.length:Int))) then
   (ak[(IntKind.wrap .i64 ((IntKind.wrap .i64 (first+(IntKind.wrap .i64 ((IntKind.wrap .i64 (root*2))+1))))+1):Int).toNat]?).bind fun x2=>
   (C bp [.int .i64 ((x1.cell 0).toInt),.int .i64 ((x1.cell 1).toInt),.list aa ((x1.cell 2).toList),.int .i64 ((x2.cell 0).toInt),.int .i64 ((x2.cell 1).toInt),.list aa ((x2.cell 2).toList)]).bind fun r3=>
   wH C hi first root (IntKind.wrap .i64 ((IntKind.wrap .i64 (root*2))+1)) (decide ((((V.nth r3 0).toInt):Int)<0)) ak (fun (ov:Int)=>
    bif (decide (0≤(IntKind.wrap .i64 (first+root))))&&(decide ((IntKind.wrap .i64 (first+root))<(ak.length:Int))) then
     (ak[(IntKind.wrap .i64 (first+root):Int).toNat]?).bind fun x5=>
     bif (decide (0≤(IntKind.wrap .i64 (first+ov))))&&(decide ((IntKind.wrap .i64 (first+ov))<(ak.length:Int))) then
     (ak[(IntKind.wrap .i64 (first+ov):Int).toNat]?).bind fun x6=>
     (C bp [.int .i64 ((x5.cell 0).toInt),.int .i64 ((x5.cell 1).toInt),.list aa ((x5.cell 2).toList),.int .i64 ((x6.cell 0).toInt),.int .i64 ((x6.cell 1).toInt),.list aa ((x6.cell 2).toList)]).bind fun r7=>
     bif !(decide ((((V.nth r7 0).toInt):Int)<0)) then
      kr (.inr (root,ov,!(decide ((((V.nth r7 0).toInt):Int)<0)),ak))
     else
      bif (decide (0≤(IntKind.wrap .i64 (first+ov))))&&(decide ((IntKind.wrap .i64 (first+ov))<(ak.length:Int))) then
      (ak[(IntKind.wrap .i64 (first+ov):Int).toNat]?).bind fun x8=>
      bif (decide (0≤(IntKind.wrap .i64 (first+root))))&&(decide ((IntKind.wrap .i64 (first+root))<(ak.length:Int))) then
       (ak[(IntKind.wrap .i64 (first+root):Int).toNat]?).bind fun x9=>
       bif (decide (0≤(IntKind.wrap .i64 (first+root))))&&(decide ((IntKind.wrap .i64 (first+root))<(ak.length:Int))) then
       (ak[(IntKind.wrap .i64 (first+root):Int).toNat]?).bind fun im=>
       bif (decide (0≤(IntKind.wrap .i64 (first+ov))))&&(decide ((IntKind.wrap .i64 (first+ov))<((ak.set ((IntKind.wrap .i64 (first+root):Int).toNat) (.agg [.int .i64 ((x8.cell 0).toInt),.int .i64 ((x8.cell 1).toInt),.list aa ((x8.cell 2).toList)])).length:Int))) then
        ((ak.set ((IntKind.wrap .i64 (first+root):Int).toNat) (.agg [.int .i64 ((x8.cell 0).toInt),.int .i64 ((x8.cell 1).toInt),.list aa ((x8.cell 2).toList)]))[(IntKind.wrap .i64 (first+ov):Int).toNat]?).bind fun et=>
        kn (ov,(ak.set ((IntKind.wrap .i64 (first+root):Int).toNat) (.agg [.int .i64 ((x8.cell 0).toInt),.int .i64 ((x8.cell 1).toInt),.list aa ((x8.cell 2).toList)])).set ((IntKind.wrap .i64 (first+ov):Int).toNat) (.agg [.int .i64 ((x9.cell 0).toInt),.int .i64 ((x9.cell 1).toInt),.list aa ((x9.cell 2).toList)]))
       else none
       else none
      else none
      else none
     else none
    else none)
   else none
  else none
  else
  wH C hi first root (IntKind.wrap .i64 ((IntKind.wrap .i64 (root*2))+1)) false ak (fun (ow:Int)=>
   bif (decide (0≤(IntKind.wrap .i64 (first+root))))&&(decide ((IntKind.wrap .i64 (first+root))<(ak.length:Int))) then
    (ak[(IntKind.wrap .i64 (first+root):Int).toNat]?).bind fun iN=>
    bif (decide (0≤(IntKind.wrap .i64 (first+ow))))&&(decide ((IntKind.wrap .i64 (first+ow))<(ak.length:Int))) then
    (ak[(IntKind.wrap .i64 (first+ow):Int).toNat]?).bind fun mw=>
    (C bp [.int .i64 ((iN.cell 0).toInt),.int .i64 ((iN.cell 1).toInt),.list aa ((iN.cell 2).toList),.int .i64 ((mw.cell 0).toInt),.int .i64 ((mw.cell 1).toInt),.list aa ((mw.cell 2).toList)]).bind fun ox=>
    bif !(decide ((((V.nth ox 0).toInt):Int)<0)) then
     kr (.inr (root,ow,!(decide ((((V.nth ox 0).toInt):Int)<0)),ak))
    else
     bif (decide (0≤(IntKind.wrap .i64 (first+ow))))&&(decide ((IntKind.wrap .i64 (first+ow))<(ak.length:Int))) then
     (ak[(IntKind.wrap .i64 (first+ow):Int).toNat]?).bind fun gf=>
     bif (decide (0≤(IntKind.wrap .i64 (first+root))))&&(decide ((IntKind.wrap .i64 (first+root))<(ak.length:Int))) then
      (ak[(IntKind.wrap .i64 (first+root):Int).toNat]?).bind fun py=>
      bif (decide (0≤(IntKind.wrap .i64 (first+root))))&&(decide ((IntKind.wrap .i64 (first+root))<(ak.length:Int))) then
      (ak[(IntKind.wrap .i64 (first+root):Int).toNat]?).bind fun wh=>
      bif (decide (0≤(IntKind.wrap .i64 (first+ow))))&&(decide ((IntKind.wrap .i64 (first+ow))<((ak.set ((IntKind.wrap .i64 (first+root):Int).toNat) (.agg [.int .i64 ((gf.cell 0).toInt),.int .i64 ((gf.cell 1).toInt),.list aa ((gf.cell 2).toList)])).length:Int))) then
       ((ak.set ((IntKind.wrap .i64 (first+root):Int).toNat) (.agg [.int .i64 ((gf.cell 0).toInt),.int .i64 ((gf.cell 1).toInt),.list aa ((gf.cell 2).toList)]))[(IntKind.wrap .i64 (first+ow):Int).toNat]?).bind fun oo=>
       kn (ow,(ak.set ((IntKind.wrap .i64 (first+root):Int).toNat) (.agg [.int .i64 ((gf.cell 0).toInt),.int .i64 ((gf.cell 1).toInt),.list aa ((gf.cell 2).toList)])).set ((IntKind.wrap .i64 (first+ow):Int).toNat) (.agg [.int .i64 ((py.cell 0).toInt),.int .i64 ((py.cell 1).toInt),.list aa ((py.cell 2).toList)]))
      else none
      else none
     else none
     else none
    else none
   else none)
noncomputable def pC (C:ae) (hi first:Int):(Int × (List V))→Option ((Int × (List V)) ⊕ ((Int × Int × Bool × (List V)) ⊕ (Int × Int × Bool × (List V)))):=un fun root ak=>tX C hi first root ak (fun y=>some (.inl y)) (fun r=>some (.inr r))
noncomputable def Xr (C:ae):bZ:=fun β n ds k=>
 bif Nat.beq n 655 then iM Nt [[1,2,3,0,6]] (@wH C) ds k else
 bif Nat.beq n 17 then bK Nu [false,false,true,true] [[1,2,0,0,0,0],[1,2,0,0,0,0]] (@tX C) ds k else
 none
abbrev Xs (C:ae) (b:bX):Prop:=bY Tryz.prog au C (Xr C) 104 (cj Tryz.prog (au.aP 104)) (au.sin 104).ba.length b
theorem ajN (C:ae):Xs C (.cond 40 (aw [1,0,0,0,1,1,0,1,0] zF) (aw [1,0,0,0,1,1,0,1,1] zF)):=
 jq Nt [[1,2,3,0,6]] (@wH C) (by kernel_rfl) (a8 (bs:=[]) (by kernel_rfl) ax) (a8 (bs:=[]) (by kernel_rfl) ax) (fun ds=>by kernel_rfl) (fun i β k=>by kernel_rfl) (fun β ds k=>by kernel_rfl)
theorem ajO (C:ae):Xs C (.loop (aw [1,0,0] zF)):=
 bN Nu [false,false,true,true] [[1,2,0,0,0,0],[1,2,0,0,0,0]] (@tX C) (by kernel_rfl) (a8 (bs:=[.cond 40 (aw [1,0,0,0,1,1,0,1,0] zF) (aw [1,0,0,0,1,1,0,1,1] zF)]) (by kernel_rfl) (bq (ajN C) ax)) (fun ds=>by kernel_rfl) (fun i x=>by kernel_rfl) (fun i x β k=>by kernel_rfl) (fun β ds k=>by kernel_rfl)
noncomputable def Xt (C:ae) (lo hi first:Int) (ak:List V):Option (List V):=
 (Loop (pC C hi first) (lo,ak)).bind (cu (un fun (apl:Int)=>un fun (apm:Int)=>un fun (NS:Bool) (ajP:List V)=>
  some [.list aa ajP]) (un fun (apn:Int)=>un fun (apo:Int)=>un fun (NT:Bool) (sx:List V)=>
  some [.list aa sx]))
theorem ajQ {lo hi first:Int} {ak:List V} {r:Option (List V)} (h:Xt CC lo hi first ak=r):CC B0 [.int .i64 lo,.int .i64 hi,.int .i64 first,.list aa ak]=r:=
 aY (key:=104) (L:=Xr CC) (bs:=[.loop (aw [1,0,0] zF)]) (by kernel_rfl) (bq (ajO CC) ax) (aX (by kernel_rfl) h)
noncomputable abbrev IA:Code:=cg Tryz.prog (au.aP 94)
noncomputable def Dz (C:ae) (first lo hi i:Int) (ak:List V) {β:Type} (kn:(Int × (List V))→Option β) (kr:(Int × Bool × (List V))→Option β):Option β:=
 bif decide ((i:Int)≥0) then
  (C B0 [.int .i64 i,.int .i64 hi,.int .i64 first,.list aa ak]).bind fun r1=>
  kn (IntKind.wrap .i64 (i-1),(V.nth r1 0).toList)
 else
  kr (i,decide ((i:Int)≥0),ak)
noncomputable def IB (C:ae) (first lo hi:Int):(Int × (List V))→Option ((Int × (List V)) ⊕ (Int × Bool × (List V))):=un fun i ak=>Dz C first lo hi i ak (fun y=>some (.inl y)) (fun r=>some (.inr r))
noncomputable def DA (C:ae) (first lo i:Int) (ak:List V) {β:Type} (kn:(Int × (List V))→Option β) (kr:(Int × Bool × (List V))→Option β):Option β:=
 bif decide ((i:Int)≥0) then
  bif (decide (0≤(IntKind.wrap .i64 (first+i))))&&(decide ((IntKind.wrap .i64 (first+i))<(ak.length:Int))) then
  (ak[(IntKind.wrap .i64 (first+i):Int).toNat]?).bind fun x5=>
  bif (decide (0≤first))&&(decide (first<(ak.length:Int))) then
   (ak[(first:Int).toNat]?).bind fun x6=>
   bif (decide (0≤first))&&(decide (first<(ak.length:Int))) then
   (ak[(first:Int).toNat]?).bind fun x7=>
   bif (decide (0≤(IntKind.wrap .i64 (first+i))))&&(decide ((IntKind.wrap .i64 (first+i))<((ak.set ((first:Int).toNat) (.agg [.int .i64 ((x5.cell 0).toInt),.int .i64 ((x5.cell 1).toInt),.list aa ((x5.cell 2).toList)])).length:Int))) then
    ((ak.set ((first:Int).toNat) (.agg [.int .i64 ((x5.cell 0).toInt),.int .i64 ((x5.cell 1).toInt),.list aa ((x5.cell 2).toList)]))[(IntKind.wrap .i64 (first+i):Int).toNat]?).bind fun x8=>
    (C B0 [.int .i64 lo,.int .i64 i,.int .i64 first,.list aa ((ak.set ((first:Int).toNat) (.agg [.int .i64 ((x5.cell 0).toInt),.int .i64 ((x5.cell 1).toInt),.list aa ((x5.cell 2).toList)])).set ((IntKind.wrap .i64 (first+i):Int).toNat) (.agg [.int .i64 ((x6.cell 0).toInt),.int .i64 ((x6.cell 1).toInt),.list aa ((x6.cell 2).toList)]))]).bind fun r9=>
    kn (IntKind.wrap .i64 (i-1),(V.nth r9 0).toList)
   else none
   else none
  else none
  else none
 else
  kr (i,decide ((i:Int)≥0),ak)
noncomputable def IC (C:ae) (first lo:Int):(Int × (List V))→Option ((Int × (List V)) ⊕ (Int × Bool × (List V))):=un fun i ak=>DA C first lo i ak (fun y=>some (.inl y)) (fun r=>some (.inr r))
noncomputable def Xu (C:ae):bZ:=fun β n ds k=>
 bif Nat.beq n 65 then bK M5 [false,false,false,true,true] [[1,2,3,0,0,0]] (@Dz C) ds k else
 bif Nat.beq n 129 then bK M6 [false,false,true,true] [[1,2,0,0,0]] (@DA C) ds k else
 none
abbrev Xv (C:ae) (b:bX):Prop:=bY Tryz.prog au C (Xu C) 94 (cj Tryz.prog (au.aP 94)) (au.sin 94).ba.length b
theorem ajR (C:ae):Xv C (.loop (aw [1,1,1,0,1,0,0] IA)):=
 bN M5 [false,false,false,true,true] [[1,2,3,0,0,0]] (@Dz C) (by kernel_rfl) (a8 (bs:=[]) (by kernel_rfl) ax) (fun ds=>by kernel_rfl) (fun i x=>by kernel_rfl) (fun i x β k=>by kernel_rfl) (fun β ds k=>by kernel_rfl)
theorem ajS (C:ae):Xv C (.loop (aw [1,1,1,1,1,0,0] IA)):=
 bN M6 [false,false,true,true] [[1,2,0,0,0]] (@DA C) (by kernel_rfl) (a8 (bs:=[]) (by kernel_rfl) ax) (fun ds=>by kernel_rfl) (fun i x=>by kernel_rfl) (fun i x β k=>by kernel_rfl) (fun β ds k=>by kernel_rfl)
noncomputable def Xw (C:ae) (a b':Int) (ak:List V):Option (List V):=
 (Loop (IB C a 0 (IntKind.wrap .i64 (b'-a))) (IntKind.wrap .i64 (Int.tdiv (IntKind.wrap .i64 ((IntKind.wrap .i64 (b'-a))-1)) 2),ak)).bind (un fun (i_2:Int)=>un fun (jI:Bool) (ajT:List V)=>
  (Loop (IC C a 0) (IntKind.wrap .i64 ((IntKind.wrap .i64 (b'-a))-1),ajT)).bind (un fun (apq:Int)=>un fun (tE:Bool) (nn:List V)=>
   some [.list aa nn]))
theorem ajU {a b':Int} {ak:List V} {r:Option (List V)} (h:Xw CC a b' ak=r):CC BX [.int .i64 a,.int .i64 b',.list aa ak]=r:=
 aY (key:=94) (L:=Xu CC) (bs:=[.loop (aw [1,1,1,0,1,0,0] IA),.loop (aw [1,1,1,1,1,0,0] IA)]) (by kernel_rfl) (bq (ajR CC) (bq (ajS CC) ax)) (aX (by kernel_rfl) h)
noncomputable abbrev Xx:Code:=cg Tryz.prog (au.aP 97)
noncomputable def zG (C:ae) (i j:Int) (ak:List V) {β:Type} (kn:(Int × Int × (List V))→Option β) (kr:(Int × Int × Bool × (List V))→Option β):Option β:=
 bif decide ((i:Int)<j) then
  bif (decide (0≤j))&&(decide (j<(ak.length:Int))) then
  (ak[(j:Int).toNat]?).bind fun x1=>
  bif (decide (0≤i))&&(decide (i<(ak.length:Int))) then
   (ak[(i:Int).toNat]?).bind fun x2=>
   bif (decide (0≤i))&&(decide (i<(ak.length:Int))) then
   (ak[(i:Int).toNat]?).bind fun x3=>
   bif (decide (0≤j))&&(decide (j<((ak.set ((i:Int).toNat) (.agg [.int .i64 ((x1.cell 0).toInt),.int .i64 ((x1.cell 1).toInt),.list aa ((x1.cell 2).toList)])).length:Int))) then
    ((ak.set ((i:Int).toNat) (.agg [.int .i64 ((x1.cell 0).toInt),.int .i64 ((x1.cell 1).toInt),.list aa ((x1.cell 2).toList)]))[(j:Int).toNat]?).bind fun x4=>
    kn (IntKind.wrap .i64 (i+1),IntKind.wrap .i64 (j-1),(ak.set ((i:Int).toNat) (.agg [.int .i64 ((x1.cell 0).toInt),.int .i64 ((x1.cell 1).toInt),.list aa ((x1.cell 2).toList)])).set ((j:Int).toNat) (.agg [.int .i64 ((x2.cell 0).toInt),.int .i64 ((x2.cell 1).toInt),.list aa ((x2.cell 2).toList)]))
   else none
   else none
  else none
  else none
 else
  kr (i,j,decide ((i:Int)<j),ak)
noncomputable def DB (C:ae):(Int × Int × (List V))→Option ((Int × Int × (List V)) ⊕ (Int × Int × Bool × (List V))):=un fun i=>un fun j ak=>zG C i j ak (fun y=>some (.inl y)) (fun r=>some (.inr r))
noncomputable def Xy (C:ae):bZ:=fun β n ds k=>
 bif Nat.beq n 33 then bK Nb [true,true,true] [[0,0,0,0]] (@zG C) ds k else
 none
abbrev ajV (C:ae) (b:bX):Prop:=bY Tryz.prog au C (Xy C) 97 (cj Tryz.prog (au.aP 97)) (au.sin 97).ba.length b
theorem ajW (C:ae):ajV C (.loop (aw [1,1,0,0] Xx)):=
 bN Nb [true,true,true] [[0,0,0,0]] (@zG C) (by kernel_rfl) (a8 (bs:=[]) (by kernel_rfl) ax) (fun ds=>by kernel_rfl) (fun i x=>by kernel_rfl) (fun i x β k=>by kernel_rfl) (fun β ds k=>by kernel_rfl)
noncomputable def Xz (C:ae) (a b':Int) (ak:List V):Option (List V):=
 (Loop (DB C) (a,IntKind.wrap .i64 (b'-1),ak)).bind (un fun (cW:Int)=>un fun (OQ:Int)=>un fun (nc:Bool) (ajX:List V)=>
  some [.list aa ajX])
theorem ajY {a b':Int} {ak:List V} {r:Option (List V)} (h:Xz CC a b' ak=r):CC Hk [.int .i64 a,.int .i64 b',.list aa ak]=r:=
 aY (key:=97) (L:=Xy CC) (bs:=[.loop (aw [1,1,0,0] Xx)]) (by kernel_rfl) (bq (ajW CC) ax) (aX (by kernel_rfl) h)
end Go.AM
set_option maxRecDepth 100000
set_option maxHeartbeats 4000000
namespace Go.AM.SX
open Go.Proofs Go.Sort
def aA (a b:XE):Bool:=decide (b8 a b<0)
theorem tY (a b:XE):(aA a b=true)=(b8 a b<0):=by unfold aA;rw[dX]
theorem sy (a b:XE):((!aA a b)=true)= ¬(b8 a b<0):=by unfold aA;simp
abbrev eA (d:Array XE):List V:=qI XE.enc d
theorem ajZ (a j:Nat) (d:Array XE):insInner aA a (j+1) d=if j+1>a then (if b8 d[j+1]! d[j]! <0 then insInner aA a j (swp d (j+1) j) else d) else d:=by
 rw[Xn]
 by_cases h1:j+1>a
 ·rw[ag h1];simp only[h1,oM,km,tY]
 ·rw[ah h1,ah (by simp[h1])]
theorem OY (hi first root:Nat) (d:Array XE):siftDown aA hi first root d=
  if 2*root+1≥hi then d else
   if 2*root+2<hi then
    (if b8 d[first+(2*root+1)]! d[first+(2*root+2)]! <0 then
     (if b8 d[first+root]! d[first+(2*root+2)]! <0 then siftDown aA hi first (2*root+2) (swp d (first+root) (first+(2*root+2))) else d)
    else (if b8 d[first+root]! d[first+(2*root+1)]! <0 then siftDown aA hi first (2*root+1) (swp d (first+root) (first+(2*root+1))) else d))
   else (if b8 d[first+root]! d[first+(2*root+1)]! <0 then siftDown aA hi first (2*root+1) (swp d (first+root) (first+(2*root+1))) else d):=by
 rw[siftDown]
 by_cases h1:2*root+1≥hi
 ·rw[sJ h1,ag h1]
 rw[dif_neg h1,ah h1]
 by_cases U:2*root+2<hi
 ·rw[ag U]
  by_cases h3:b8 d[first+(2*root+1)]! d[first+(2*root+2)]! <0
  ·rw[ag h3,ag (by simp only[aO,dX,tY];exact ⟨U,h3⟩)]
   simp only[sy]
   by_cases h4:b8 d[first+root]! d[first+(2*root+2)]! <0
   ·rw[ah (qZ h4),sJ U,ag h4]
   ·rw[ag h4,ah h4]
  ·rw[ah h3,ah (by simp only[aO,dX,tY];exact fun h=>h3 h.2)]
   simp only[sy]
   by_cases h4:b8 d[first+root]! d[first+(2*root+1)]! <0
   ·rw[ah (qZ h4),ag h4]
   ·rw[ag h4,ah h4]
 ·rw[ah U,ah (by simp only[aO,dX,tY];exact fun h=>U h.1)]
  simp only[sy]
  by_cases h4:b8 d[first+root]! d[first+(2*root+1)]! <0
  ·rw[ah (qZ h4),ag h4]
  ·rw[ag h4,ah h4]
theorem XA {a b i:Nat}: ∀(j:Nat) (d:Array XE),j<d.size→d.size<1152921504606846976→
  ∃j' t,Loop (zD CC a b i) ((j:Int),eA d)=some (j',t,eA (insInner aA a j d))
 | 0,d,hj,hs=>⟨(0:Nat),false,bj (by
   simp (disch:=omega) only[zD,zC,un,az,ah]
   rfl)⟩
 | j+1,d,hj,hs=>by
  obtain ⟨j',t,ih⟩:=XA (a:=a) (b:=b) (i:=i) j (swp d (j+1) j) (by rw[size_swp];omega) (by rw[size_swp];omega)
  rw[ajZ]
  by_cases h1:j+1>a
  ·rw[ag h1]
   have e:zD CC a b i (((j+1:Nat):Int),eA d)=if b8 d[j+1]! d[j]! <0 then some (.inl ((j:Int),eA (swp d (j+1) j))) else some (.inr (((j+1:Nat):Int),decide (b8 d[j+1]! d[j]! <0),eA d)):=by
    simp (disch:=omega) only[zD,zC,un,az,ct,gd,ag,ah,wrap64,dV,gl,Int.toNat_natCast,Option.bind_some,gi,gk,XE.bz,XE.bA,XE.bB,XE.re,gj,iR,gX,gS,V.aC,V.toInt_int,cond_true,cond_false,wG]
    rfl
   by_cases U:b8 d[j+1]! d[j]! <0
   ·rw[ag U] at e⊢
    exact ⟨j',t,(bW e).trans ih⟩
   ·rw[ah U] at e⊢
    exact ⟨_,_,bj e⟩
  ·rw[ah h1]
   exact ⟨((j+1:Nat):Int),false,bj (by
    simp (disch:=omega) only[zD,zC,un,az,ah])⟩
theorem aj0 {a b:Nat}: ∀(n i:Nat) (d:Array XE),b-i=n→b≤d.size→d.size<1152921504606846976→
  ∃j' t,Loop (Iz CC a b) ((i:Int),eA d)=some (j',t,eA (insOuter aA a b i d)):=by
 intro n
 induction n with
 | zero=>
  intro i d hn hb hs
  rw[insOuter,ah (by omega)]
  exact ⟨(i:Int),false,bj (by
   simp (disch:=omega) only[Iz,Dy,un,tW,cond_false])⟩
 | succ n ih=>
  intro i d hn hb hs
  obtain ⟨j1,t1,h1⟩:=XA (a:=a) (b:=b) (i:=i) i d (by omega) hs
  obtain ⟨j',t,U⟩:=ih (i+1) (insInner aA a i d) (by omega) (by rw[OV];omega) (by rw[OV];omega)
  rw[insOuter,ag (by omega)]
  refine ⟨j',t,(bW ?_).trans U⟩
  simp (disch:=omega) only[Iz,Dy,un,az,ag,h1,Option.bind_some,dV,wrap64]
theorem XB {a b:Nat} {d:Array XE} (hb:b≤d.size) (hs:d.size<1152921504606846976) (ha:a<1152921504606846976):
  CC BW [.int .i64 (a:Int),.int .i64 (b:Int),.list aa (eA d)]=some [.list aa (eA (insertionSort aA d a b))]:=by
 refine ajM ?_
 unfold Xq
 obtain ⟨j',t,h⟩:=aj0 (a:=a) (b:=b) _ (a+1) d rfl hb hs
 simp (disch:=omega) only[dV,wrap64]
 rw[h]
 rfl
theorem aj1 (hi first:Nat): ∀(n root:Nat) (d:Array XE),hi-root≤n→root<1152921504606846976→first+hi≤d.size→d.size<1152921504606846976→
  (∃x y z,Loop (pC CC hi first) ((root:Int),eA d)=some (.inl (x,y,z,eA (siftDown aA hi first root d))))∨
  (∃x y z,Loop (pC CC hi first) ((root:Int),eA d)=some (.inr (x,y,z,eA (siftDown aA hi first root d)))):=by
 intro n
 induction n with
 | zero=>
  intro root d hn hr hb hs
  rw[OY,ag (by omega)]
  exact .inl ⟨(root:Int),((root*2+1:Nat):Int),true,bj (by
   simp (disch:=omega) only[pC,tX,un,Dw,dV,wrap64];rw[ou (by omega)];rfl)⟩
 | succ n ih=>
  intro root d hn hr hb hs
  by_cases h1:2*root+1≥hi
  ·rw[OY,ag h1]
   exact .inl ⟨(root:Int),((root*2+1:Nat):Int),true,bj (by
    simp (disch:=omega) only[pC,tX,un,Dw,dV,wrap64];rw[ou (by omega)];rfl)⟩
  ·have go: ∀c:Nat,c<hi→root<c→(pC CC hi first ((root:Int),eA d)=
      if b8 d[first+root]! d[first+c]! <0 then some (.inl ((c:Int),eA (swp d (first+root) (first+c)))) else some (.inr (.inr ((root:Int),(c:Int),true,eA d))))→
     siftDown aA hi first root d=(if b8 d[first+root]! d[first+c]! <0 then siftDown aA hi first c (swp d (first+root) (first+c)) else d)→
     ((∃x y z,Loop (pC CC hi first) ((root:Int),eA d)=some (.inl (x,y,z,eA (siftDown aA hi first root d))))∨
     (∃x y z,Loop (pC CC hi first) ((root:Int),eA d)=some (.inr (x,y,z,eA (siftDown aA hi first root d))))):=by
    intro c hc hrc e1 e2
    rw[e2]
    by_cases h3:b8 d[first+root]! d[first+c]! <0
    ·rw[ag h3] at e1
     rw[ag h3,bW e1]
     exact ih c _ (by omega) (by omega) (by rw[size_swp];omega) (by rw[size_swp];omega)
    ·rw[ah h3] at e1
     rw[ah h3,bj e1]
     exact .inr ⟨_,_,_,rfl⟩
   have e0:=OY hi first root d
   rw[ah h1] at e0
   by_cases U:2*root+2<hi
   ·rw[ag U] at e0
    by_cases h3:b8 d[first+(2*root+1)]! d[first+(2*root+2)]! <0
    ·rw[ag h3] at e0
     refine go (2*root+2) (by omega) (by omega) ?_ e0
     rw[lj 2 root] at h3
     simp (disch:=omega) only[pC,tX,un,Dw,dV,gl,wrap64]
     rw[az,ah (by omega),az,ag (by omega)]
     simp (disch:=omega) only[wH,az,ct,gd,ag,ah,wrap64,dV,gl,Int.toNat_natCast,Option.bind_some,gi,gk,XE.bz,XE.bA,XE.bB,XE.re,gj,iR,gX,gS,V.aC,V.toInt_int,cond_true,cond_false,lj 2 root,ou]
     by_cases h4:b8 d[first+root]! d[first+(root*2+2)]! <0
     ·simp only[h4,cU];rfl
     ·simp only[h4,fS];rfl
    ·rw[ah h3] at e0
     refine go (2*root+1) (by omega) (by omega) ?_ e0
     rw[lj 2 root] at h3
     simp (disch:=omega) only[pC,tX,un,Dw,dV,gl,wrap64]
     rw[az,ah (by omega),az,ag (by omega)]
     simp (disch:=omega) only[wH,az,ct,gd,ag,ah,wrap64,dV,gl,Int.toNat_natCast,Option.bind_some,gi,gk,XE.bz,XE.bA,XE.bB,XE.re,gj,iR,gX,gS,V.aC,V.toInt_int,cond_true,cond_false,lj 2 root,tW]
     by_cases h4:b8 d[first+root]! d[first+(root*2+1)]! <0
     ·simp only[h4,cU];rfl
     ·simp only[h4,fS];rfl
   ·rw[ah U] at e0
    refine go (2*root+1) (by omega) (by omega) ?_ e0
    simp (disch:=omega) only[pC,tX,un,Dw,dV,gl,wrap64]
    rw[az,ah (by omega),az,ah (by omega)]
    simp (disch:=omega) only[wH,az,ct,gd,ag,ah,wrap64,dV,gl,Int.toNat_natCast,Option.bind_some,gi,gk,XE.bz,XE.bA,XE.bB,XE.re,gj,iR,gX,gS,V.aC,V.toInt_int,cond_true,cond_false,lj 2 root]
    by_cases h4:b8 d[first+root]! d[first+(root*2+1)]! <0
    ·simp only[h4,cU];rfl
    ·simp only[h4,fS];rfl
theorem XC {lo hi first:Nat} {d:Array XE} (hl:lo<1152921504606846976) (hb:first+hi≤d.size) (hs:d.size<1152921504606846976):
  CC B0 [.int .i64 (lo:Int),.int .i64 (hi:Int),.int .i64 (first:Int),.list aa (eA d)]=some [.list aa (eA (siftDown aA hi first lo d))]:=by
 refine ajQ ?_
 unfold Xt
 rcases aj1 hi first _ lo d (bV _) hl hb hs with ⟨x,y,z,h⟩|⟨x,y,z,h⟩
 ·rw[h];rfl
 ·rw[h];rfl
theorem XD {hi first:Nat}: ∀(k:Nat) (d:Array XE),k<1152921504606846976→first+hi≤d.size→d.size<1152921504606846976→
  ∃x y,Loop (IB CC first 0 hi) ((k:Int)-1,eA d)=some (x,y,eA (heapBuild aA hi first k d))
 | 0,d,hk,hb,hs=>⟨-1,false,bj (by
   simp (disch:=omega) only[IB,Dz,un,az,ah]
   rfl)⟩
 | k+1,d,hk,hb,hs=>by
  obtain ⟨x,y,ih⟩:=XD (hi:=hi) (first:=first) k (siftDown aA hi first k d) (by omega) (by rw[Dx _ _ _ _ _ (bV _)];omega) (by rw[Dx _ _ _ _ _ (bV _)];omega)
  refine ⟨x,y,(bW ?_).trans ih⟩
  simp (disch:=omega) only[IB,Dz,un,az,ag,wG,XC,Option.bind_some,V.aC,V.bS,wrap64]
theorem XF {first:Nat}: ∀(k:Nat) (d:Array XE),k<1152921504606846976→first+k≤d.size→d.size<1152921504606846976→
  ∃x y,Loop (IC CC first 0) ((k:Int)-1,eA d)=some (x,y,eA (heapPop aA first k d))
 | 0,d,hk,hb,hs=>⟨-1,false,bj (by
   simp (disch:=omega) only[IC,DA,un,az,ah]
   rfl)⟩
 | k+1,d,hk,hb,hs=>by
  obtain ⟨x,y,ih⟩:=XF (first:=first) k (siftDown aA k first 0 (swp d first (first+k))) (by omega) (by rw[Dx _ _ _ _ _ (bV _),size_swp];omega) (by rw[Dx _ _ _ _ _ (bV _),size_swp];omega)
  refine ⟨x,y,(bW ?_).trans ih⟩
  have ib:=XC (lo:=0) (hi:=k) (first:=first) (d:=swp d first (first+k)) (by omega) (by rw[size_swp];omega) (by rw[size_swp];omega)
  unfold swp at ib⊢
  rw[show ((0:Nat):Int)=0 from rfl] at ib
  simp (disch:=omega) only[IC,DA,un,wG,az,ct,gd,ag,ah,wrap64,dV,gl,Int.toNat_natCast,Option.bind_some,gi,gk,XE.bz,XE.bA,XE.bB,XE.re,gj,iR,gX,gS,V.aC,V.toInt_int,cond_true,cond_false]
  rw[ib]
  simp (disch:=omega) only[Option.bind_some,V.aC,V.bS,wrap64]
theorem aj2 {a b:Nat} {d:Array XE} (fu:a<b) (hb:b≤d.size) (hs:d.size<1152921504606846976):
  CC BX [.int .i64 (a:Int),.int .i64 (b:Int),.list aa (eA d)]=some [.list aa (eA (heapSort aA d a b))]:=by
 refine ajU ?_
 unfold Xw
 obtain ⟨x,y,h1⟩:=XD (hi:=b-a) (first:=a) ((b-a-1)/2+1) d (by omega) (by omega) hs
 obtain ⟨x2,y2,U⟩:=XF (first:=a) (b-a) (heapBuild aA (b-a) a ((b-a-1)/2+1) d) (by omega) (by rw[OW];omega) (by rw[OW];omega)
 have e1:((((b-a-1)/2+1:Nat):Int)-1)=Int.tdiv (((b-a:Nat):Int)-1) 2:=by
  rw[Int.tdiv_eq_ediv_of_nonneg (by omega)]
  omega
 rw[e1] at h1
 simp (disch:=omega) only[nk,wrap64]
 rw[h1]
 simp only[Option.bind_some,un]
 rw[U]
 rfl
theorem aj3: ∀(n i j:Nat) (d:Array XE),j-i≤n→j<d.size→d.size<1152921504606846976→
  ∃x y z,Loop (DB CC) ((i:Int),(j:Int),eA d)=some (x,y,z,eA (reverseLoop i j d)):=by
 intro n
 induction n with
 | zero=>
  intro i j d hn hj hs
  rw[reverseLoop,ah (by omega)]
  exact ⟨(i:Int),(j:Int),false,bj (by
   simp (disch:=omega) only[DB,zG,un,tW,cond_false])⟩
 | succ n ih=>
  intro i j d hn hj hs
  rw[reverseLoop]
  by_cases h:i<j
  ·rw[ag h]
   obtain ⟨x,y,z,U⟩:=ih (i+1) (j-1) (swp d i j) (by omega) (by rw[size_swp];omega) (by rw[size_swp];omega)
   refine ⟨x,y,z,(bW ?_).trans U⟩
   simp (disch:=omega) only[DB,zG,un,az,ct,gd,ag,ah,wrap64,dV,gl,Int.toNat_natCast,Option.bind_some,gi,gk,XE.bz,XE.bA,XE.bB,XE.re,gj,iR,gX,gS,V.aC,V.toInt_int,cond_true,cond_false,kW]
   rfl
  ·rw[ah h]
   exact ⟨(i:Int),(j:Int),false,bj (by
    simp (disch:=omega) only[DB,zG,un,tW,cond_false])⟩
theorem aj4 {a b:Nat} {d:Array XE} (fu:a<b) (hb:b≤d.size) (hs:d.size<1152921504606846976):
  CC Hk [.int .i64 (a:Int),.int .i64 (b:Int),.list aa (eA d)]=some [.list aa (eA (reverseRange d a b))]:=by
 refine ajY ?_
 unfold Xz
 obtain ⟨x,y,z,h⟩:=aj3 _ a (b-1) d (bV _) (by omega) hs
 simp (disch:=omega) only[kW,wrap64]
 rw[h]
 rfl
end Go.AM.SX
