/-
  Functions of the program, lifted to plain data.
-/
import Derived.Lib.AppendStr
import Derived.Laws.BytesString
import Derived.Lib.Builder
import Derived.Lib.UnsafeStr
import Derived.Conc.MuLone
import Derived.Defers
import Derived.Test.YtaijibbmmbhniaaGreatDoorP2
noncomputable section
set_option linter.unusedVariables false
set_option linter.unusedSimpArgs false
set_option linter.unusedSectionVars false
namespace Go.AM
section
variable {P:Program} {w w':World} {I I':Nat→Nat→Prop} {β β':Nat→Option Nat} {hp hp':Nat→Option af} {C:ae} {B:Nat} {M:Nat→Prop} {w0:Start}
theorem akX {e:TypeId} (he:P.underlying e=some (.int .u8)) (hc:P.cellsOf e=1) (s:ByteArray): ∀(i j:Nat) (x:V) (t':TypeId),(s.data.toList.map vg)[i]? =some x→(bc P e)[j]? =some t'→j<P.cellsOf e→
  ∃u,(Lib.strCells s)[i*P.cellsOf e+j]? =some u∧Pure P w I t' u (cu P e x j):=by
 intro i j x t' hx ht hj;have oM:cA P e=false:=by simp[cA,he]
 obtain rfl:j=0:=by omega
 simp only[bc,oM,cond_false,List.getElem?_cons_zero,eX] at ht;subst ht;rw[gD] at hx;cases hb:s.data.toList[i]? with
 | none=>grind
 | some b=>
  rw[hb] at hx;cases hx;refine ⟨.int .u8 b.toNat,?_,?_⟩
  ·rw[hc,ij,Nat.add_zero];simp only[Lib.strCells,gD,hb,Option.map_some]
  ·simp only[cu,oM,cond_false];exact .int he
theorem akY (w:World) (t u ty e T:TypeId) (i:TypeInfo) (ht:P.underlying t=some (.slice e)) (hu:P.underlying u=some .string) (hi:P.info? e=some i) (kZ:i.size=1)
  (g mA vC:Nat) (cur:Array Value) (hg:w.heap[g]? =some (.cells cur T (0,0))) (s:ByteArray)
  (tU:mA+s.size≤vC) (BY:mA+s.size≤cur.size):
  (Builtin.append_ #[t,u] ty #[.slice (some ⟨g,0,none⟩) mA vC,.string s]).run P w=
   .ok (.slice (some ⟨g,0,none⟩) (mA+s.size) vC) (w.setRow g (cur.toList.take mA++Lib.strCells s++cur.toList.drop (mA+s.size)).toArray):=by
 have hf:=Lib.run_firstCells_string (P:=P) w 1 s;have b9:=run_storeCells_at P g mA T (Lib.strCells s) 0 cur w hg (by simpa[Lib.strCells_length] using BY) (Lib.strCells_oneCell s);simp only[Nat.add_zero,Lib.strCells_length] at b9;simp[Builtin.append_,run_underlying ht,run_underlying hu,sizeOf,typeInfo,hi,kZ,Builtin.lenOf,tU,hf,Addr.add_lit,b9]
theorem akZ (w:World) (t u ty e:TypeId) (i:TypeInfo) (z:Value) (ht:P.underlying t=some (.slice e)) (hu:P.underlying u=some .string) (hi:P.info? e=some i) (hz:i.zero=some z)
  (s:ByteArray) (h0:0<s.size) (Fc:(s.size:Int)≤9223372036854775807) (Lv:s.size*i.bytes≤281474976710656) (a0:Option Addr):
  (Builtin.append_ #[t,u] ty #[.slice a0 0 0,.string s]).run P w=
   .ok (.slice (some ⟨w.heap.size,0,none⟩) s.size (grownCap w s.size 0 e))
    (w.drew.alloc (.cells (s.data.map (fun b=>Value.int .u8 b.toNat)++Builtin.zeroCells z.cells (grownCap w s.size 0 e-s.size)) e)):=by
 cases a0 with
 | none=>exact run_append_nil_string w t u ty e i z ht hu hi hz s h0 Fc Lv
 | some b=>
  rw[←run_append_nil_string w t u ty e i z ht hu hi hz s h0 Fc Lv];have hn:s.size≠0:=by omega
  have Rx: ¬(9223372036854775807<(s.size:Int)):=by omega
  have ak0: ¬(281474976710656<Builtin.nextslicecap s.size 0*i.bytes):=by rw[nextslicecap_zero h0];omega
  simp[Builtin.append_,run_underlying ht,run_underlying hu,sizeOf,typeInfo,zeroValue,hi,hz,Builtin.lenOf,Builtin.firstCells,hn,Rx,ak0,Question.forced,newRow,grownCap,loadCells,loadCellsFrom]
theorem aaA (S:aB P w I β hp B M w0) {t u ty e:TypeId} {nb:Nat} {fz:Bool} {x:ByteArray} {xs:List V} {i:TypeInfo} {z:Value} (hu:P.underlying t=some (.slice e)) (sM:P.underlying u=some .string) (aw:dw P e=true) (hn:hp nb=none)
 (hi:P.info? e=some i) (hz:i.zero=some z) (h3:i.size=P.cellsOf e) (h4:z.cells.size=P.cellsOf e) (Fp:i.size=1) (nX:P.bytesOf e=i.bytes) (eI:xs.length*P.bytesOf e≤aX) (nZ:xs.length=x.size) (rn:(Lib.strCells x).length=x.size)
 (fE: ∀(i j:Nat) (y:V) (t':TypeId),xs[i]? =some y→(bc P e)[j]? =some t'→j<P.cellsOf e→∃u,(Lib.strCells x)[i*P.cellsOf e+j]? =some u∧Pure P w I t' u (cu P e y j)):
 ∀a0,∃v w' β',(Builtin.append_ #[t,u] ty #[.slice a0 0 0,.string x]).run P w= .ok v w'∧Le P w I β hp w' I β' (av hp nb (some (.arr e xs fz)))∧aB P w' I β' (av hp nb (some (.arr e xs fz))) B M w0∧
  ai P w' I β' (av hp nb (some (.arr e xs fz))) v (.whole e nb):=by
 intro a0;have vB:=y5 aw;have hlen:xs.length≤2^45:=by
  have:xs.length*1≤xs.length*P.bytesOf e:=wP _ vB;simp only[aX] at eI;omega
 by_cases h0:x.size=0
 ·have kE:xs=[]:=o0 (by omega);subst kE;obtain ⟨a1,a2⟩:=ER S e hn;have hf:=Lib.run_firstCells_string (P:=P) w 1 x;rw[h0] at hf;have iN:Lib.strCells x=[]:=o0 (by omega);exact ⟨.slice a0 0 0,_,_,by cases a0<;>simp[storeCells,iN,Builtin.append_,run_underlying hu,run_underlying sM,sizeOf,typeInfo,hi,Fp,Builtin.lenOf,h0,hf],a1,a2,.ej (bW _ _ _) (bW _ _ _)⟩
 ·have da:=akZ (P:=P) w t u ty e i z hu sM hi hz x (by omega) (by omega) (by rw[←nX,←nZ];simp only[aX] at eI;omega) a0;have e1:(x.data.map fun b=>Value.int .u8 b.toNat)=(Lib.strCells x).toArray:=by
   apply Array.ext';simp[Lib.strCells]
  rw[e1,←nZ] at da;have rm:=grownCap_ge w xs.length 0 e;have sK:grownCap w xs.length 0 e≤maxLen:=grownCap_le_maxLen w xs.length 0 e (by simp only[maxLen];omega);obtain ⟨n1,n2,n3⟩:=BU S.drew (nb:=nb) (cap:=grownCap w xs.length 0 e) (es:=xs) (C0:=(Lib.strCells x).toArray++Builtin.zeroCells z.cells (grownCap w xs.length 0 e-xs.length)) aw hn
   (by
    have:(Lib.strCells x).length=xs.length*P.cellsOf e:=by grind
    simp only[Kh,rY,size_zeroCells,h4,this,←kQ];grind) rm sK
   (fun i' j y t' hy ht hj=>by
    obtain ⟨u,lg,hp⟩:=fE i' j y t' hy ht hj;have bf:=(cO.1 lg).1;refine ⟨u,?_,Pure.drew hp⟩;grind)
  exact ⟨_,_,_,da,(Le.drew w I β hp).trans n1,n2,n3⟩
theorem ak1 (S:aB P w I β hp B M w0) {t u ty e:TypeId} {nb:Nat} {s:Value} {sv:V} {x:ByteArray} {r:R} {rd:List Nat} (hu:P.underlying t=some (.slice e)) (sM:P.underlying u=some .string) (he:P.underlying e=some (.int .u8)) (hs:ai P w I β hp s sv)
  (h:(Bw P nb e sv (.list e (x.data.toList.map vg))).run C hp=some (r,rd)):dJ P ((Builtin.append_ #[t,u] ty #[s,.string x]).run P w) w I β hp B M w0 r:=by
 unfold Bw at h;obtain ⟨aw,h⟩:=aH h;simp only[va] at h;obtain ⟨_,h⟩:=aH h;have oM:cA P e=false:=by simp[cA,he]
 have gu:P.cellsOf e=1:=by rw[←(oG aw).1,EN oM];rfl
 obtain ⟨i,z,hi,hz,h3,h4,_⟩:=kC aw;have Fp:i.size=1:=by omega
 have vB:=y5 aw;have nX:P.bytesOf e=i.bytes:=by simp[Program.bytesOf,hi]
 have LH:=akX (P:=P) (w:=w) (I:=I) he gu x;have nZ:(x.data.toList.map vg).length=x.size:=by simp
 have rn:(Lib.strCells x).length=x.size:=Lib.strCells_length x;have h1:=Lib.strCells_oneCell x;generalize kE:x.data.toList.map vg=xs at*
 cases sv with
 | nilS e'=>
  obtain ⟨hc,h⟩:=aH h;simp only[aK,ba,fo] at hc;obtain ⟨hn,rfl⟩:=mz h;obtain ⟨a0,rfl⟩: ∃a0,s= .slice a0 0 0:=by cases hs;grind
  obtain ⟨v,w',β',a1,a2,a3,a4⟩:=aaA S hu sM aw hn hi hz h3 h4 Fp nX hc.2 nZ rn LH _;exact ⟨v,w',I,β',a1,a2,a3,a4⟩
 | whole e' id=>
  obtain ⟨l,h⟩:=run_get h;cases ab:hp id with
  | none=>rw[ab] at h;cases h
  | some blk=>
   rw[ab] at h;cases blk with
   | dead=>cases h
   | var _=>cases h
   | nest _ _ _=>cases h
   | map _ _=>cases h
   | out _ _ _ _=>cases h
   | arr eM es fz=>
    obtain ⟨hc,h⟩:=aH h;obtain ⟨hn,rfl⟩:=mz h;simp only[aK,ba,fo] at hc;obtain ⟨Rb,Rc,eI⟩:=hc;subst Rb;subst Rc;have cm:nb≠id:=fun e=>by grind
    obtain ⟨k1,k2⟩:=xi S ab;have ja:av hp id (some af.dead) nb=none:=by rw[cK _ _ cm];exact hn
    cases hs with
    | eC hd=>grind
    | ee hd=>grind
    | eF hd=>grind
    | fC hd=>grind
    | ej hd hb=>
     rw[ab] at hd;cases hd;simp only[List.length_nil,ed] at eI;obtain ⟨v,w',β',a1,a2,a3,a4⟩:=aaA k2 hu sM aw ja hi hz h3 h4 Fp nX eI nZ rn LH _;exact ⟨v,w',I,β',a1,k1.trans a2,a3,a4⟩
    | @whole _ _ aQ qX b cap hd hb bw cf hm=>
     rw[ab] at hd;cases hd;have hr:=S.h.rel id _ ab;cases hr with
     | eZ aA=>grind
     | @arr _ T0 _ _ b' Ca hL _ aA hh xq hf fQ xr=>
      rw[hb] at aA;cases aA;have hlen:es.length+xs.length≤2^45:=by
       have:(es.length+xs.length)*1≤(es.length+xs.length)*P.bytesOf e:=wP _ vB;simp only[aX] at eI;omega
      rw[kY hh] at bw;have qj: ∀ax blk',av hp id (some af.dead) ax=some blk'→¬bB P w (β ax) blk' b:=by
       intro ax blk' h1 h2;by_cases m9:ax=id
       ·subst m9;rw[bW] at h1;cases h1;exact h2.alive rfl
       ·rw[cK _ _ m9] at h1;exact m9 (S.h.inj ax id blk' _ b h1 ab h2 (.root (by simp) hb))
      have Ff:=S.h.xe id _ b ab (by simp) hb;have lO:es.length*P.cellsOf e≤Ca.toList.length:=by omega
      have ak2:(Lib.strCells x).length=xs.length*P.cellsOf e:=by grind
      by_cases tU:es.length+xs.length≤cap
      ·have BY:es.length*P.cellsOf e+(Lib.strCells x).length≤Ca.size:=by grind
       have da:=akY (P:=P) w t u ty e T0 i hu sM hi Fp b es.length cap Ca hh x (by omega) (by grind);have fE:=Lu (P:=P) (w:=w) (I:=I) (n:=es.length) (c:=Ca.toList) rfl (fun i j y t' a b c=>by
        grind) LH lO (Ca.toList.drop (es.length*P.cellsOf e+(Lib.strCells x).length))
       generalize Lj:(Ca.toList.take es.length++Lib.strCells x++Ca.toList.drop (es.length+x.size)).toArray=C' at da;have pk:C'.size=Ca.size:=by
        grind
       have Ry:(w.setRow b C').heap[b]? =some (.cells C' T0 (0,0)):=setRow_heap w b Ca C' T0 _ hh;have jt: ∀j,j<es.length*P.cellsOf e→C'[j]? =Ca[j]? :=fun j hj=>by
        grind
       obtain ⟨a1,a2⟩:=BK k2 (blk:= .arr e (es++xs) fz) (w':=w.setRow b C') ja qj (Z7 hh Ry (Q6 hf fQ) jt) (fun b' h _=>setRow_other w b b' _ h) (by simp) ⟨rfl,rfl⟩ Ff
        (fun b' h=>(ew (h.flat (by simp))).symm) (fun hle=> .arr (pk▸hL) aw rfl Ry (by grind) (fun _ j h=>gB (Q6 hf fQ j h) (eV _ (by simp))) fQ fun i j y t' a b c=>by
         obtain ⟨v,hv,hp⟩:=fE i j y t' a b c;refine ⟨v,?_,hp.mono hle.eN hle.cZ⟩;grind)
       refine ⟨_,_,_,_,da,k1.trans a1,a2,?_⟩;have a3:=ai.whole (P:=P) (w:=w.setRow b C') (I:=I) (β:=av β nb (some b)) (hp:=av (av hp id (some .dead)) nb (some (.arr e (es++xs) fz))) (cap:=cap) (b:=b) (es:=es++xs) (fz:=fz) (id:=nb) (e:=e) (bW _ _ _) (bW _ _ _) (by rw[kY Ry,pk,bw]) (by grind) hm;rw[dd,nZ] at a3;exact a3
      ·have hold: ∀(j:Nat) v,(Ca.toList.take (es.length*P.cellsOf e))[j]? =some v→w.cell? ((⟨b,0,none⟩:Addr).add j)=some v:=by
        intro j v hj;have eD:=(cO.1 hj).1;have cS:j<es.length*P.cellsOf e:=by grind
        rw[iQ cS] at hj;rw[oI,cell?_cells hh,ed];grind
       have da:=Lib.run_append_grow_string (P:=P) w t u ty e i z hu sM hi hz ⟨b,0,none⟩ es.length cap (Ca.toList.take (es.length*P.cellsOf e)) (by grind) hold x (by omega) (by omega)
        (growslice_fits (by omega) (by rw[←nX,←nZ];simp only[aX] at eI;omega))
       rw[←nZ] at da;have rm:=grownCap_ge w (es.length+xs.length) cap e;have sK:grownCap w (es.length+xs.length) cap e≤maxLen:=grownCap_le_maxLen w _ cap e (by simp only[maxLen];omega);have fE:=Lu (P:=P) (w:=w) (I:=I) (n:=es.length) (c:=Ca.toList) rfl (fun i j y t' a b c=>by
        grind) LH lO (Builtin.zeroCells z.cells (grownCap w (es.length+xs.length) cap e-(es.length+xs.length))).toList
       obtain ⟨n1,n2,n3⟩:=BU k2.drew (nb:=nb) (cap:=grownCap w (es.length+xs.length) cap e) (es:=es++xs)
        (C0:=(Ca.toList.take (es.length*P.cellsOf e)).toArray++(Lib.strCells x).toArray++Builtin.zeroCells z.cells (grownCap w (es.length+xs.length) cap e-(es.length+xs.length))) aw ja
        (by
         have e1:(Ca.toList.take (es.length*P.cellsOf e)).length=es.length*P.cellsOf e:=by simp;omega
         simp only[Kh,rY,size_zeroCells,h4,ak2,e1,←kQ];grind) (by grind) sK
        (fun i j y t' a b c=>by
         obtain ⟨v,hv,hp⟩:=fE i j y t' a b c;refine ⟨v,?_,Pure.drew hp⟩;grind)
       rw[dd] at n3;exact ⟨_,_,_,_,da,(k1.trans (Le.drew w I β _)).trans n1,n2,n3⟩
 | _=>cases h
end
section
variable {P:Program} {w w':World} {I I':Nat→Nat→Prop} {β β':Nat→Option Nat} {hp hp':Nat→Option af} {C:ae} {B:Nat} {M:Nat→Prop} {w0:Start}
theorem aaB: ∀(ns:List Int) (s:ByteArray),(ns.foldl (fun r n=>r.push (UInt8.ofNat n.toNat)) s).data.toList=s.data.toList++ns.map fun n=>UInt8.ofNat n.toNat
 | [],s=>by simp
 | n::ns,s=>by
  simp only[List.foldl_cons,aaB ns,iS];simp_all
theorem Rz {e:TypeId} {u:Value} {x:V} (he:P.underlying e=some (.int .u8)) (hp:Pure P w I e u x):u= .int .u8 x.toInt:=by
 cases hp with
 | int hp'=>rw[he] at hp';cases hp';rfl
 | bool hp'=>grind
 | str hp'=>grind
 | nil hp'=>grind
 | emp hp'=>grind
 | list _ hp'=>grind
theorem ak3 (S:aB P w I β hp B M w0) {src dst e:TypeId} {v:Value} {x:V} {r:R} {rd:List Nat} (hs:P.underlying src=some (.slice e)) (he:P.underlying e=some (.int .u8)) (hd:P.underlying dst=some .string)
  (hv:ai P w I β hp v x) (h:(Rd.aD (dw P e) (va e x fun es=> .ret ⟨.str (j8 es),[]⟩)).run C hp=some (r,rd)):dJ P ((convert src dst v).run P w) w I β hp B M w0 r:=by
 obtain ⟨aw,h⟩:=aH h;obtain ⟨xs,hx,l,h⟩:=Fb S.h.rel aw hv h;obtain rfl:=aZ h;have oM:cA P e=false:=by simp[cA,he]
 have h1:P.cellsOf e=1:=by rw[←(oG aw).1,EN oM];rfl
 rcases hx with ⟨⟨a,rfl⟩,rfl⟩|⟨a,c,news,hr⟩
 ·refine .same S (v:= .string .empty) ?_ (.str (by simp[j8]));rw[run_convert_bytes_string w src dst e a 0 0 hs he hd];cases a<;>simp[Conv.bytesToString,loadCells,loadCellsFrom]
 ·have tT:news=(xs.map V.toInt).map (Value.int .u8):=by
   apply Ea;intro j;by_cases hj:j<xs.length
   ·obtain ⟨u,hu,hp⟩:=hr.el j 0 xs[j] e (cp hj) (by simp[bc,oM]) (by omega);rw[h1] at hu;simp only[cu,oM,cond_false] at hp;have lg:news[j]? =some u:=by grind
    rw[lg];have:=Rz he hp;grind
   ·have hl:news.length=xs.length:=by rw[hr.len,h1];simp
    grind
  have RA:=run_loadCells_list (P:=P) w a news hr.cell;have hl:news.length=xs.length:=by grind
  rw[hl] at RA;rw[tT] at RA;refine .same S (v:= .string ((xs.map V.toInt).foldl (fun r n=>r.push (UInt8.ofNat n.toNat)) ByteArray.empty)) ?_ (.str ?_)
  ·rw[hr.val,run_convert_bytes_string w src dst e _ _ _ hs he hd];exact run_bytesToString w a xs.length c (xs.map V.toInt) RA
  ·rw[aaB];simp[j8]
theorem ai.LI {v:Value} (h:ai P w I β hp v .fg):v= .pointer none:=by cases h;rfl
section
variable (w:World)
theorem ak4 (t e:TypeId) (a:Addr) (h:P.underlying t=some (.pointer e)):(binOp .eql t (.pointer (some a)) (.pointer none)).run P w= .ok (.bool false) w:=by
 have h0: ∀d:Nat,(Op.equalIn (d+1) t (.pointer (some a)) (.pointer none)).run P w= .ok false w:=fun d=>by simp[Op.equalIn,run_underlying h]
 simp only[binOp];simp[Op.equal,Op.maxDepth,h0 9999]
theorem ak5 (t e:TypeId) (a:Addr) (h:P.underlying t=some (.pointer e)):(binOp .neq t (.pointer (some a)) (.pointer none)).run P w= .ok (.bool (!false)) w:=by
 have h0: ∀d:Nat,(Op.equalIn (d+1) t (.pointer (some a)) (.pointer none)).run P w= .ok false w:=fun d=>by simp[Op.equalIn,run_underlying h]
 simp only[binOp];simp[Op.equal,Op.maxDepth,h0 9999]
theorem ak6 (t e:TypeId) (a:Addr) (h:P.underlying t=some (.pointer e)):(binOp .eql t (.pointer none) (.pointer (some a))).run P w= .ok (.bool false) w:=by
 have h0: ∀d:Nat,(Op.equalIn (d+1) t (.pointer none) (.pointer (some a))).run P w= .ok false w:=fun d=>by simp[Op.equalIn,run_underlying h]
 simp only[binOp];simp[Op.equal,Op.maxDepth,h0 9999]
theorem ak7 (t e:TypeId) (a:Addr) (h:P.underlying t=some (.pointer e)):(binOp .neq t (.pointer none) (.pointer (some a))).run P w= .ok (.bool (!false)) w:=by
 have h0: ∀d:Nat,(Op.equalIn (d+1) t (.pointer none) (.pointer (some a))).run P w= .ok false w:=fun d=>by simp[Op.equalIn,run_underlying h]
 simp only[binOp];simp[Op.equal,Op.maxDepth,h0 9999]
theorem ak8 (t e:TypeId) (h:P.underlying t=some (.pointer e)):(binOp .eql t (.pointer none) (.pointer none)).run P w= .ok (.bool true) w:=by
 have h0: ∀d:Nat,(Op.equalIn (d+1) t (.pointer none) (.pointer none)).run P w= .ok true w:=fun d=>by simp[Op.equalIn,run_underlying h]
 simp only[binOp];simp[Op.equal,Op.maxDepth,h0 9999]
theorem ak9 (t e:TypeId) (h:P.underlying t=some (.pointer e)):(binOp .neq t (.pointer none) (.pointer none)).run P w= .ok (.bool (!true)) w:=by
 have h0: ∀d:Nat,(Op.equalIn (d+1) t (.pointer none) (.pointer none)).run P w= .ok true w:=fun d=>by simp[Op.equalIn,run_underlying h]
 simp only[binOp];simp[Op.equal,Op.maxDepth,h0 9999]
end
theorem LJ (S:aB P w I β hp B M w0) {op:BinOp} {t:TypeId} {b:Bool} {x y:Operand} {v1 v2:Value} {r:R} {rd:List Nat} (h:(ptrEq P op t b).run C hp=some (r,rd)) (hg:(eqGuard op t x y v1 v2).run P w= .ok () w)
  (he: ∀e j,P.underlying t=some (.pointer e)→P.info? e=some j→(binOp .eql t v1 v2).run P w= .ok (.bool b) w∧(binOp .neq t v1 v2).run P w= .ok (.bool (!b)) w):
  dJ P ((do eqGuard op t x y v1 v2;binOp op t v1 v2:Sem Value).run P w) w I β hp B M w0 r:=by
 unfold ptrEq at h;cases hu:P.underlying t with
 | none=>rw[hu] at h;cases h
 | some d=>
  rw[hu] at h;cases d<;>simp only at h<;>first|(cases h;done)|skip
  rename_i e;obtain ⟨h1,h2⟩:=aH h;obtain ⟨j,hj⟩:=Ki.1 h1;obtain ⟨k1,k2⟩:=he e j hu hj;cases op<;>simp only at h2<;>first|(cases h2;done)|skip
  ·obtain rfl:=aZ h2;exact .same S (by simp_all) .bool
  ·obtain rfl:=aZ h2;exact .same S (by simp_all) .bool
theorem ala {b n:Nat}:(∀b',b'≠b→(w.freeze ⟨b,0,none⟩ n).heap[b']? =w.heap[b']?)∧bsize (w.freeze ⟨b,0,none⟩ n) b=bsize w b∧w.heap.size≤(w.freeze ⟨b,0,none⟩ n).heap.size∧(w.freeze ⟨b,0,none⟩ n).os=w.os∧(w.freeze ⟨b,0,none⟩ n).output=w.output:=by
 unfold World.freeze;split
 ·grind
 ·refine ⟨fun b' hb=> ?_,?_,by simp,rfl,rfl⟩
  ·grind
  ·simp only[bsize,Kl,kR];grind
theorem alb {e:TypeId} (hb:isByte P e=true):P.underlying e=some (.int .u8):=by
 unfold isByte at hb;grind
theorem alc (S:aB P w I β hp B M w0) {ts:Array TypeId} {ty e:TypeId} {v:Value} {id:Nat} {es:List V} {fz:Bool} (hv:ai P w I β hp v (.whole e id)) (ab:hp id=some (.arr e es fz)) (h0:0<es.length):
  dJ P ((Builtin.unsafeSliceData_ ts ty #[v]).run P w) w I β hp B M w0 ⟨.ptr id 0 0,[]⟩:=by
 cases hv with
 | eC h=>grind
 | ej h _=>grind
 | ee h _ _ _ _=>grind
 | eF h _=>grind
 | fC h _ _ _ _=>grind
 | @whole _ _ aQ qX b cap h hb cf hle hm=>
  rw[ab] at h;cases h;refine .same S (Lib.run_unsafeSliceData_row w ts ty ⟨b,0,none⟩ es.length cap (by omega)) ?_;have:=ai.ptr (P:=P) (w:=w) (I:=I) (β:=β) (i:=0) (c:=0) ab (by simp) hb;grind
theorem ald {P:Program} {w:World} (pt it ty e T:TypeId) (hp:P.underlying pt=some (.pointer e)) (g cells:Nat) (hsh:w.shape? g=some (T,cells)) (l:List UInt8) (h0:l≠[]) (Z9:liesAt P P.depth T (cells/P.cellsOf T) 0 e l.length=true) (Fc:l.length≤9223372036854775807)
  (gI: ∀j x,l[j]? =some x→w.cell? ((⟨g,0,none⟩:Addr).add j)=some (.int .u8 x.toNat)):
  (Builtin.unsafeString_ #[pt,it] ty #[.pointer (some ⟨g,0,none⟩),.int .i64 l.length]).run P w= .ok (.string ⟨l.toArray⟩) (w.freeze ⟨g,0,none⟩ l.length):=by
 have hl:l.length≠0:=by grind
 have hlb:=Lib.run_loadBytes (P:=P) w l ⟨g,0,none⟩ .empty gI;have Rx: ¬(9223372036854775807:Int)<(l.length:Int):=by omega
 have ale:Builtin.unsafeString_ #[pt,it] ty #[.pointer (some ⟨g,0,none⟩),.int .i64 l.length]=
   (do
    let n←asInt (.int .i64 l.length)
    if n < 0 then runtimePanic (.error "unsafe.String: len out of range")
    if n > IntKind.i64.max then unsupported (.unsafePointer "String: a length above the largest int")
    if n=0 then pure (.string .empty)
    else if←variablesAt ⟨g,0,none⟩ (←elemOf pt) n.toNat then do
     let s←loadBytes ⟨g,0,none⟩ .empty n.toNat
     Go.freeze ⟨g,0,none⟩ n.toNat
     pure (.string s)
    else unsupported (.unsafePointer "String: not so many bytes at ptr")) := rfl
 rw[ale];have alf:IntKind.i64.max=9223372036854775807:=rfl;have alg: ¬(l.length:Int)<0:=by omega
 simp[asInt,asIntOf,alf,Rx,alg,hl,variablesAt,hsh,elemOf,run_underlying hp,Z9,hlb]
theorem alh (S:aB P w I β hp B M w0) {t u ty e:TypeId} {vx:Value} {id:Nat} {n:Int} {es:List V} (hu:P.underlying t=some (.pointer e)) (hb:isByte P e=true) (hv:ai P w I β hp vx (.ptr id 0 0))
  (ab:hp id=some (.arr e es false)) (h0:0<n) (hn:n≤es.length) (hm:n.toNat≤yR) (ft:(es.take n.toNat).all Qp=true):dJ P ((Builtin.unsafeString_ #[t,u] ty #[vx,.int .i64 n]).run P w) w I β hp B M w0 ⟨.str (j8 (es.take n.toNat)),[(id,.dead)]⟩:=by
 obtain ⟨b,RB,rfl⟩:=hv.iZ ab (by simp);have eG:=hb;have he:P.underlying e=some (.int .u8):=by
  unfold isByte at hb;grind
 have oM:cA P e=false:=by simp[cA,he]
 have hr:=S.h.rel id _ ab;rw[RB] at hr;cases hr with
 | eZ aA=>cases aA
 | @arr _ T0 _ _ b1 Ca hL aw lO hh hs hI dI fE=>
  cases lO;have h1:P.cellsOf e=1:=by rw[←(oG aw).1,EN oM];rfl
  have bf:=S.ajG ab (by simp) RB;have hl:(j8 (es.take n.toNat)).length=n.toNat:=by simp[j8];omega
  have Ru:n=((j8 (es.take n.toNat)).length:Nat):=by omega
  have da:=ald (P:=P) (w:=w) t u ty e T0 hu b Ca.size (by simp[World.shape?,hh]) (j8 (es.take n.toNat)) (fun h=>by grind) (hL eG h1 _ (by grind)) (by rw[hl];unfold yR at hm;omega) (fun j x hx=>by
   have hj:j<n.toNat:=by
    grind
   have zd:j<es.length:=by omega
   simp only[j8,gD,iQ hj,cp zd,Option.map_some,eX] at hx;obtain ⟨v,zm,bX⟩:=fE j 0 es[j] e (cp zd) (by simp[bc,oM]) (by omega);rw[h1] at zm;simp only[cu,oM,cond_false] at bX;have:=Rz he bX;have hr:=gC.1 ft es[j] (mR (by rw[iQ hj];grind));simp only[Qp,aK,fl] at hr;have m8:(x.toNat:Int)=es[j].toInt:=by
    rw[←hx];have:es[j].toInt.toNat<256:=by omega
    simp only[UInt8.toNat_ofNat'];omega
   rw[oI,cell?_cells hh,m8];grind)
  obtain ⟨f1,f2,f3,f4,f5⟩:=ala (w:=w) (b:=b) (n:=n.toNat);obtain ⟨k1,k2⟩:=ES (w':=w.freeze ⟨b,0,none⟩ n.toNat) S ab (by simp) (blk':= .dead) (by trivial) RB (dI rfl) (by simp) f1 f2 f3 ⟨f4,f5⟩ (fun _=> .dead);rw[←Ru,hl] at da;refine ⟨.string ⟨(j8 (es.take n.toNat)).toArray⟩,_,I,β,?_,k1,k2,.str ?_⟩
  all_goals grind
def RC:Op→Bool
 | .call {callee:= .value (.func _),..}=>true
 | .call {callee:= .value (.tmp _),..}=>true
 | .defer _=>true
 | _=>false
theorem tL.val {o:Oper} {a:Act} {s:Sem Value} {r:R} (he:execOp a.eval o=(do Pure.pure (Next.value (←s)))) (h:dJ P (s.run P w) w I β hp B M w0 r):tL P ((execOp a.eval o).run P w) w I β hp B M w0 r:=by
 rw[he];exact h.op
theorem ali {A:dH} (S:aB P w I β hp B M w0) (hg:jL P A.aL w I) {a:Act} {sl:Nat→V} (hs:nR P w I β hp a sl) {ix nb:Nat} {o:Oper} (RD:RC o.op=false) {r:R} {rd:List Nat}
  (h:(iU P A sl ix nb o).run C hp=some (r,rd)):tL P ((execOp a.eval o).run P w) w I β hp B M w0 r:=by
 obtain ⟨dst,op,ty,pos,after,guard⟩:=o;cases op<;>simp only[iU] at h<;>first|(cases h;done)|skip
 case move x=>
  obtain rfl:=aZ h;exact ⟨_,w,I,β,.inl (by simp[execOp]),Le.refl w I β hp,S,hs.ev hg ty x⟩
 case assign x=>
  obtain rfl:=aZ h;exact ⟨_,w,I,β,.inl (by simp[execOp]),Le.refl w I β hp,S,hs.ev hg ty x⟩
 case pick c x y=>
  have hc:=hs.ev hg ty c;cases zk:bd P A.aL ty sl c<;>rw[zk] at h hc<;>simp only at h<;>first|(cases h;done)|skip
  rename_i t;have alj:=hc.mY;have hx:=hs.ev hg ty x;have hy:=hs.ev hg ty y;have fin: ∀z:V,ai P w I β hp (if t then a.eval x else a.eval y) z→tL P ((execOp a.eval ⟨dst,.pick c x y,ty,pos,after,guard⟩).run P w) w I β hp B M w0 ⟨z,[]⟩:=by
   intro z hz;exact ⟨_,w,I,β,.inl (by simp[execOp,alj,asBool]),Le.refl w I β hp,S,hz⟩
  cases LL:gone (bd P A.aL ty sl x) with
  | true=>
   rw[LL] at h;obtain ⟨h1,h⟩:=aH h;obtain rfl:=aZ h;grind
  | false=>
   rw[LL] at h;simp only[cond_false] at h;cases hg2:gone (bd P A.aL ty sl y) with
   | true=>
    rw[hg2] at h;obtain ⟨h1,h⟩:=aH h;obtain rfl:=aZ h;grind
   | false=>
    rw[hg2] at h;obtain rfl:=aZ h;exact fin _ (Zr hx hy)
 case makeFunc fn x y=>
  cases fn<;>simp only[iU] at h<;>first|(cases h;done)|skip
  rename_i f;obtain rfl:=aZ h;refine ⟨.func (.func f) (x.map a.eval) (y.map a.eval),w,I,β,.inl (by simp[execOp,Instr.makeFunc]),Le.refl w I β hp,S,.fn (by simp) (fun j v z hj hz=> ?_) (by simp) (fun j v z hj hz=> ?_)⟩
  ·rw[Array.getElem?_map] at hj;rw[gD,qR] at hz;cases hx:x[j]? with
   | none=>grind
   | some o1=>
    rw[hx] at hj hz;cases hj;cases hz;exact hs.ev hg ty o1
  ·rw[Array.getElem?_map] at hj;rw[gD,qR] at hz;cases hx:y[j]? with
   | none=>grind
   | some o1=>
    rw[hx] at hj hz;cases hj;cases hz;exact hs.ev hg ty o1
 case defer c=>cases RD
 case makeMap t res=>
  cases res with
  | some x=>cases h
  | none=>exact .val rfl (akS S h)
 case lookup t m k ok=>
  cases ht:pb P t with
  | none=>rw[ht] at h;cases h
  | some q=>
   obtain ⟨kt,vt⟩:=q;rw[ht] at h;exact .val (s:=Instr.lookup t (a.eval m) (a.eval k) ok) rfl (akR S ht (hs.ev hg t m) (hs.ev hg kt k) h)
 case mapUpdate t m k x=>
  cases ht:pb P t with
  | none=>rw[ht] at h;cases h
  | some q=>
   obtain ⟨kt,vt⟩:=q;rw[ht] at h;have:=aay S ht (hs.ev hg t m) (hs.ev hg kt k) (hs.ev hg vt x) h;exact this.op
 case insert t m k x=>
  cases ht:pb P t with
  | none=>rw[ht] at h;cases h
  | some q=>
   obtain ⟨kt,vt⟩:=q;rw[ht] at h;have:=aay S ht (hs.ev hg t m) (hs.ev hg kt k) (hs.ev hg vt x) h;exact this.op
 case alloc e=>
  cases dst with
  | none=>exact .val rfl (ZW S h)
  | some d=>
   simp only at h;cases tX:jf A.sc d with
   | true=>rw[tX] at h;exact .val rfl (akh S h)
   | false=>rw[tX] at h;exact .val rfl (ZW S h)
 case box e x=>
  exact .val rfl (akc S (hs.ev hg e x) h)
 case build t ps=>exact .val rfl (ake S hs hg h)
 case buildSlice t len ps=>
  cases hu:P.underlying t with
  | none=>rw[hu] at h;cases h
  | some d=>
   rw[hu] at h;cases d<;>simp only at h<;>first|(cases h;done)|skip
   cases dst with
   | none=>exact .val rfl (aad S hs hg hu h)
   | some d=>
    simp only at h;cases tX:jf A.sc d with
    | true=>rw[tX] at h;exact .val rfl (aky S hs hg hu h)
    | false=>rw[tX] at h;exact .val rfl (aad S hs hg hu h)
 case load t x=>exact .val rfl (ajU S (hs.ev hg ty x) h)
 case store t x y=>
  have:=akb S (hs.ev hg ty x) (hs.ev hg t y) h;exact this.op
 case nilCheck x=>
  have hx:=hs.ev hg ty x;cases jv:bd P A.aL ty sl x<;>rw[jv] at h hx<;>simp only at h<;>first|(cases h;done)|skip
  ·obtain ⟨⟨blk,ab,hd⟩,l,h⟩:=EU h;obtain rfl:=aZ h;have dy:=hx;obtain ⟨b,hb,he⟩:=hx.iZ ab hd;rw[he] at dy;exact ⟨_,w,I,β,.inl (by simp only[execOp,he];rfl),Le.refl w I β hp,S,dy⟩
  ·obtain rfl:=aZ h;have dy:=hx;obtain ⟨b,o,he,_⟩:=hx.EV;rw[he] at dy;exact ⟨_,w,I,β,.inl (by simp only[execOp,he];rfl),Le.refl w I β hp,S,dy⟩
  ·obtain ⟨e0,es,vers,l,ab,h1,h2,h3,h⟩:=ra h;obtain rfl:=aZ h;have dy:=hx;obtain ⟨b,o,he,_⟩:=hx.Zn ab h1 h2 h3;rw[he] at dy;exact ⟨_,w,I,β,.inl (by simp only[execOp,he];rfl),Le.refl w I β hp,S,dy⟩
 case binOp op t x y yt=>
  have hx:=hs.ev hg t x;have hy:=hs.ev hg t y;refine .val (s:=do eqGuard op t x y (a.eval x) (a.eval y);binOp op t (a.eval x) (a.eval y)) rfl ?_;cases jv:bd P A.aL t sl x<;>cases xx:bd P A.aL t sl y<;>rw[jv,xx] at h<;>rw[jv] at hx<;>rw[xx] at hy<;>first|(simp only[nL] at h;cases h;done)|skip
  ·rw[hx.gE,hy.gE];have:=ajL S h;simpa[ajI] using this
  ·rw[hx.mY,hy.mY];have:=ajN S h;simpa[ajJ] using this
  ·obtain ⟨s1,e1,l1⟩:=hx.ph;obtain ⟨s2,e2,l2⟩:=hy.ph;rw[e1,e2];rw[←l1,←l2] at h;have:=ajO (t:=t) S h;simpa[ajK] using this
  ·obtain ⟨cs,e1,h1,h2⟩:=hx.nT;obtain ⟨ds,e2,h3,h4⟩:=hy.nT;rw[e1,e2];exact ajP S h1 h3 h2 h4 h
  ·
   simp only[nL] at h;obtain ⟨h1,h2⟩:=aH h;clear h;simp only[aK,ba] at h1;obtain ⟨rfl,rfl,rfl⟩:=h1;obtain ⟨⟨blk,ab,hd⟩,l,h⟩:=EU h2;obtain ⟨b,hb,e1⟩:=hx.iZ ab hd;obtain ⟨b',aA,e2⟩:=hy.iZ ab hd;rw[hb] at aA;cases aA;rw[e1,e2];exact LJ S h (by cases op<;>simp[eqGuard]) fun e j he hj=>⟨run_eql_ptr_same w _ he hj,Lib.run_neq_ptr_same w _ he hj⟩
  ·simp only[nL] at h;obtain ⟨⟨blk,ab,hd⟩,l,h⟩:=EU h;obtain ⟨b,_,e1⟩:=hx.iZ ab hd;rw[e1,hy.LI];exact LJ S h (by cases op<;>simp[eqGuard]) fun e j he hj=>⟨ak4 w t e _ he,ak5 w t e _ he⟩
  ·simp only[nL] at h;obtain ⟨⟨blk,ab,hd⟩,l,h⟩:=EU h;obtain ⟨b,_,e1⟩:=hy.iZ ab hd;rw[e1,hx.LI];exact LJ S h (by cases op<;>simp[eqGuard]) fun e j he hj=>⟨ak6 w t e _ he,ak7 w t e _ he⟩
  ·simp only[nL] at h;rw[hx.LI,hy.LI];exact LJ S h (by cases op<;>simp[eqGuard]) fun e j he hj=>⟨ak8 w t e he,ak9 w t e he⟩
  ·
   simp only[nL] at h;obtain ⟨l,h⟩:=run_get h;split at h
   ·rename_i t2 es ab;obtain ⟨b,hb⟩:=hx.akW ab;rw[hy.Rw,hb];exact aaz (a:=some b) S x y h
   ·cases h
  ·simp only[nL] at h;rw[hx.Rw,hy.Rw];exact aaz (a:=none) S x y h
 case unOp op t x=>exact .val rfl (ajQ S (hs.ev hg ty x) h)
 case convert src dst x=>
  have hx:=hs.ev hg ty x;refine .val (s:=convert src dst (a.eval x)) rfl ?_;cases kZ:P.underlying src with
  | none=>rw[kZ] at h;cases h
  | some d1=>
   cases kF:P.underlying dst with
   | none=>rw[kZ,kF] at h;cases d1<;>cases h
   | some d2=>
    rw[kZ,kF] at h;have j7: ∀{b:Nat} {T:TypeId} {cs:List V} {id:Nat},hp id=some (.var T cs)→β id=some b→w.shape? b=some (T,cs.length):=by
     intro b T cs id ab hb;have hr:=S.h.rel id _ ab;rw[hb] at hr;cases hr with
     | var aA hh bw _ _ _=>cases aA;simp[World.shape?,hh,bw]
    cases d1<;>(try (cases d2<;>cases h;done))
    ·cases d2<;>(try (cases h;done))
     rename_i k1 k2;cases jv:bd P A.aL ty sl x<;>rw[jv] at h hx<;>simp only at h<;>first|(cases h;done)|skip
     obtain rfl:=aZ h;rw[hx.gE];exact .same S (by simp[convert,run_underlying kZ,run_underlying kF,Conv.intToInt]) .int
    ·cases d2<;>(try (cases h;done))
     rename_i u;cases jv:bd P A.aL ty sl x<;>rw[jv] at h hx<;>simp only at h<;>first|(cases h;done)|skip
     rename_i id i c;obtain ⟨l,h1⟩:=run_get h;cases ab:hp id with
     | none=>rw[ab] at h1;cases h1
     | some blk=>
      rw[ab] at h1;cases blk<;>simp only at h1<;>first|(cases h1;done)|skip
      rename_i T cs;obtain ⟨h2,h3⟩:=aH h1;simp only[aK,ba] at h2;obtain ⟨rfl,h4,h5⟩:=h2;obtain ⟨b,hb,e1⟩:=hx.iZ ab (by simp);obtain rfl:=aZ h3;obtain ⟨j,hj⟩:=Ki.1 h4;have dy:=hx;rw[e1] at dy⊢;exact .same S (Lib.run_from_unsafe w _ kZ kF hj (j7 ab hb) (by grind)) dy
    ·cases d2<;>(try (cases h;done))
     rename_i t;cases jv:bd P A.aL ty sl x<;>rw[jv] at h hx<;>simp only at h<;>first|(cases h;done)|skip
     rename_i id i c;obtain ⟨l,h1⟩:=run_get h;cases ab:hp id with
     | none=>rw[ab] at h1;cases h1
     | some blk=>
      rw[ab] at h1;cases blk<;>simp only at h1<;>first|(cases h1;done)|skip
      rename_i T cs;obtain ⟨h2,h3⟩:=aH h1;simp only[aK,ba,oA] at h2;obtain ⟨rfl,h4,h5⟩:=h2;obtain ⟨b,hb,e1⟩:=hx.iZ ab (by simp);obtain rfl:=aZ h3;cases hj:P.info? t with
      | none=>grind
      | some j=>
       rw[hj] at h5;simp only[nF] at h5;have h6:j.size≠0:=fun e=>by simp_all
       have dy:=hx;rw[e1] at dy⊢;exact .same S (Lib.run_to_unsafe w _ kZ kF hj h6 (j7 ab hb) (by grind)) dy
    ·rename_i e;cases d2<;>(try (cases h;done))
     simp only at h;cases he:P.underlying e with
     | none=>rw[he] at h;cases h
     | some d3=>
      rw[he] at h;cases d3<;>(try (cases h;done))
      rename_i k;cases k<;>(try (cases h;done))
      exact ak3 S kZ he kF hx h
 case fieldAddr s x f=>exact .val rfl (ajR S (hs.ev hg ty x) h)
 case field s x f=>exact .val rfl (akz S (hs.ev hg ty x) h)
 case indexAddr t x y=>exact .val rfl (akF S (hs.ev hg ty x) (hs.ev hg 0 y) h)
 case index t x y=>
  have hx:=hs.ev hg ty x;have hy:=hs.ev hg 0 y;refine .val (s:=Instr.index t (a.eval x) (a.eval y)) rfl ?_;cases hu:P.underlying t with
  | none=>rw[hu] at h;cases h
  | some d=>
   rw[hu] at h;cases d<;>(try (cases h;done))
   cases jv:bd P A.aL ty sl x<;>rw[jv] at h hx<;>(try (cases h;done))
   cases xx:bd P A.aL 0 sl y<;>rw[xx] at h hy<;>(try (cases h;done))
   obtain ⟨s,e1,l1⟩:=hx.ph;rw[e1,hy.gE];exact akB S hu l1 h
 case slice t x lo hi mx=>
  cases mx with
  | some m=>
   simp only at h;refine .val (s:=Instr.sliceAt t (a.eval x) (lo.map a.eval) (hi.map a.eval) (some (a.eval m))) (by simp[execOp]) (akE S (hs.ev hg ty x) (fun hy=> ?_) (fun y hy=> ?_) (fun y hy=> ?_) h)
   ·simp_all
   ·cases hi with
    | none=>cases hy
    | some l=>cases hy;exact ⟨_,rfl,hs.ev hg 0 l⟩
   ·cases hy;exact ⟨_,rfl,hs.ev hg 0 m⟩
  | none=>
   simp only at h;have plain:(KK P t (bd P A.aL ty sl x) (lo.map (bd P A.aL 0 sl)) (hi.map (bd P A.aL 0 sl))).run C hp=some (r,rd)→tL P ((execOp a.eval ⟨dst,.slice t x lo hi none,ty,pos,after,guard⟩).run P w) w I β hp B M w0 r:=by
    intro h;refine .val (s:=Instr.sliceAt t (a.eval x) (lo.map a.eval) (hi.map a.eval) none) (by simp[execOp]) (akD S (hs.ev hg ty x) (fun y hy=> ?_) (fun y hy=> ?_) (fun hy=> ?_) (fun hy=> ?_) h)
    ·cases lo with
     | none=>cases hy
     | some l=>cases hy;exact ⟨_,rfl,hs.ev hg 0 l⟩
    ·cases hi with
     | none=>cases hy
     | some l=>cases hy;exact ⟨_,rfl,hs.ev hg 0 l⟩
    all_goals simp_all
   have tr:(KL P nb t (bd P A.aL ty sl x) (lo.map (bd P A.aL 0 sl)) (hi.map (bd P A.aL 0 sl))).run C hp=some (r,rd)→tL P ((execOp a.eval ⟨dst,.slice t x lo hi none,ty,pos,after,guard⟩).run P w) w I β hp B M w0 r:=by
    intro h;refine .val (s:=Instr.sliceAt t (a.eval x) (lo.map a.eval) (hi.map a.eval) none) (by simp[execOp]) (akI S (hs.ev hg ty x) (fun y hy=> ?_) (fun hy=> ?_) h)
    ·cases hi with
     | none=>cases hy
     | some l=>cases hy;exact ⟨_,rfl,hs.ev hg 0 l⟩
    simp_all
   grind
 case extract x i=>
  have hx:=hs.ev hg ty x;cases jv:bd P A.aL ty sl x<;>rw[jv] at h hx<;>simp only at h<;>first|(cases h;done)|skip
  exact .val (s:=Instr.extract (a.eval x) i) rfl (akA S hx h)
 case makeSlice t l c=>
  have hl:=hs.ev hg 0 l;have hc:=hs.ev hg 0 c;refine .val (s:=Instr.makeSlice t (a.eval l) (a.eval c)) rfl ?_;cases hu:P.underlying t with
  | none=>rw[hu] at h;cases h
  | some d=>
   rw[hu] at h;cases d<;>(try (cases h;done))
   cases RE:bd P A.aL 0 sl l<;>rw[RE] at h hl<;>(try (cases h;done))
   cases zk:bd P A.aL 0 sl c<;>rw[zk] at h hc<;>(try (cases h;done))
   rw[hl.gE,hc.gE];cases dst with
   | none=>exact aae S hu h
   | some d=>
    simp only at h;cases hg:jf A.sc d with
    | true=>rw[hg] at h;exact akj S hu h
    | false=>rw[hg] at h;exact aae S hu h
 case call c=>
  obtain ⟨callee,args,argTypes⟩:=c;cases callee with
  | invoke r m=>cases h
  | value f=>
   cases f with
   | func f=>cases RD
   | tmp f=>cases RD
   | _=>cases h
  | builtin b=>
   have one: ∀{x:Operand},args.toList=[x]→args= #[x]:=fun h=>by grind
   have vE: ∀(s:Array TypeId→TypeId→Array Value→Sem Value),builtin b argTypes ty (args.map fun| .const _=>true|_=>false) (args.map a.eval)=(do Pure.pure (Next.value (←s argTypes ty (args.map a.eval))))→
     execOp a.eval ⟨dst,.call ⟨.builtin b,args,argTypes⟩,ty,pos,after,guard⟩=(do Pure.pure (Next.value (←s argTypes ty (args.map a.eval)))):=by
    intro s hb;simp only[execOp,resolve,pure_bind,invoke];exact hb
   cases b<;>(try (cases h;done))
   case append=>
    simp only at h;cases ha:args.toList with
    | nil=>rw[ha] at h;cases h
    | cons x l=>
     cases l with
     | nil=>rw[ha] at h;cases h
     | cons y l2=>
      cases l2 with
      | cons _ _=>rw[ha] at h;cases h
      | nil=>
       cases fR:argTypes.toList with
       | nil=>rw[ha,fR] at h;cases h
       | cons t l3=>
        cases l3 with
        | nil=>rw[ha,fR] at h;cases h
        | cons u l4=>
         cases l4 with
         | cons _ _=>rw[ha,fR] at h;cases h
         | nil=>
          rw[ha,fR] at h;simp only at h;have e1:args= #[x,y]:=by grind
          have e2:argTypes= #[t,u]:=by grind
          cases hu:P.underlying t with
          | none=>rw[hu] at h;cases h
          | some d=>
           rw[hu] at h;cases d<;>(try (cases h;done))
           cases hc:Nat.beq t u with
           | true=>
            rw[hc] at h;rw[ba] at hc;subst hc;simp only[cond_true] at h;refine .val (vE Builtin.append_ rfl) ?_;rw[e1,e2];cases dst with
            | none=>
             have:=aam (ty:=ty) S hu (hs.ev hg t x) (hs.ev hg t y) h;grind
            | some d=>
             simp only at h;cases tX:jf A.sc d with
             | true=>
              rw[tX] at h;have:=aks (ty:=ty) S hu (hs.ev hg t x) (hs.ev hg t y) h;grind
             | false=>
              rw[tX] at h;have:=aam (ty:=ty) S hu (hs.ev hg t x) (hs.ev hg t y) h;grind
           | false=>
            rw[hc] at h;simp only[cond_false] at h;have hy:=hs.ev hg u y;cases sM:P.underlying u with
            | none=>rw[sM] at h;cases h
            | some du=>
             rw[sM] at h;cases du<;>(try (cases h;done))
             cases xx:bd P A.aL u sl y<;>rw[xx] at h hy<;>(try (cases h;done))
             simp only at h;obtain ⟨hb,h⟩:=aH h;obtain ⟨s1,q1,q2⟩:=hy.ph;subst q2;have:=ak1 (ty:=ty) S hu sM (alb hb) (hs.ev hg t x) h;refine .val (vE Builtin.append_ rfl) ?_;grind
   case len=>
    simp only at h;cases ha:args.toList with
    | nil=>rw[ha] at h;cases h
    | cons x l=>
     cases l with
     | cons _ _=>rw[ha] at h;cases h
     | nil=>
      cases fR:argTypes.toList with
      | nil=>rw[ha,fR] at h;cases h
      | cons t l3=>
       cases l3 with
       | cons _ _=>rw[ha,fR] at h;cases h
       | nil=>
        rw[ha,fR] at h;simp only at h;have e1:args= #[x]:=by grind
        have e2:argTypes= #[t]:=by grind
        have hx:=hs.ev hg ty x;refine .val (vE Builtin.len_ rfl) ?_;rw[e1,e2];cases hu:P.underlying t with
        | none=>rw[hu] at h;cases h
        | some d=>
         rw[hu] at h;cases d<;>(try (cases h;done))
         ·cases jv:bd P A.aL ty sl x<;>rw[jv] at h hx<;>(try (cases h;done))
          have:=Zs (t:=t) (ty:=ty) S hx (fun l hl=>hu) (fun hn=>absurd rfl (hn _)) h;grind
         ·have h2:(∀l,bd P A.aL ty sl x≠ .str l)∧(KE P (bd P A.aL ty sl x)).run C hp=some (r,rd):=by
           cases jv:bd P A.aL ty sl x<;>rw[jv] at h<;>first|(cases h;done)|exact ⟨fun l=>by simp,h⟩
          have:=Zs (t:=t) (ty:=ty) S hx (fun l hl=>absurd hl (h2.1 l)) (fun _=>⟨_,hu⟩) h2.2;grind
         ·have h2:(KJ (bd P A.aL ty sl x)).run C hp=some (r,rd):=by
           omega
          have:=akV (t:=t) (ty:=ty) S hu hx h2;grind
   case unsafeSliceData=>
    simp only at h;cases ha:args.toList with
    | nil=>rw[ha] at h;cases h
    | cons x l=>
     cases l with
     | cons _ _=>rw[ha] at h;cases h
     | nil=>
      rw[ha] at h;simp only at h;have e1:args= #[x]:=by grind
      have hx:=hs.ev hg ty x;refine .val (vE Builtin.unsafeSliceData_ rfl) ?_;rw[e1];cases jv:bd P A.aL ty sl x<;>rw[jv] at h hx<;>simp only at h<;>first|(cases h;done)|skip
      rename_i e id;obtain ⟨l2,h1⟩:=run_get h;cases ab:hp id with
      | none=>rw[ab] at h1;cases h1
      | some blk=>
       rw[ab] at h1;cases blk<;>simp only at h1<;>first|(cases h1;done)|skip
       rename_i e' es fz;obtain ⟨h2,h3⟩:=aH h1;simp only[aK,ba,oA] at h2;obtain ⟨rfl,h4⟩:=h2;obtain rfl:=aZ h3;have:=alc (ts:=argTypes) (ty:=ty) S hx ab h4;grind
   case unsafeString=>
    simp only at h;cases ha:args.toList with
    | nil=>rw[ha] at h;cases h
    | cons x l=>
     cases l with
     | nil=>rw[ha] at h;cases h
     | cons y l2=>
      cases l2 with
      | cons _ _=>rw[ha] at h;cases h
      | nil=>
       cases fR:argTypes.toList with
       | nil=>rw[ha,fR] at h;cases h
       | cons t l3=>
        cases l3 with
        | nil=>rw[ha,fR] at h;cases h
        | cons u l4=>
         cases l4 with
         | cons _ _=>rw[ha,fR] at h;cases h
         | nil=>
          rw[ha,fR] at h;simp only at h;have e1:args= #[x,y]:=by grind
          have e2:argTypes= #[t,u]:=by grind
          have hx:=hs.ev hg ty x;have hy:=hs.ev hg ty y;cases hu:P.underlying t with
          | none=>rw[hu] at h;cases h
          | some d=>
           rw[hu] at h;cases d<;>(try (cases h;done))
           rename_i e;cases jv:bd P A.aL ty sl x<;>rw[jv] at h hx<;>(try (cases h;done))
           cases xx:bd P A.aL ty sl y<;>rw[xx] at h hy<;>(try (cases h;done))
           rename_i id i c k n;cases k<;>(try (cases h;done))
           simp only at h;obtain ⟨l2,h1⟩:=run_get h;cases ab:hp id with
           | none=>rw[ab] at h1;cases h1
           | some blk=>
            rw[ab] at h1;cases blk<;>simp only at h1<;>first|(cases h1;done)|skip
            rename_i e' es fz;cases fz<;>simp only at h1<;>first|(cases h1;done)|skip
            obtain ⟨h2,h3⟩:=aH h1;simp only[aK,ba,fo,fl] at h2;obtain ⟨rfl,h4,rfl,rfl,h5,h6,h7,h8⟩:=h2;obtain rfl:=aZ h3;have:=alh (u:=u) (ty:=ty) S hu h4 hx ab h5 h6 h7 h8;refine .val (vE Builtin.unsafeString_ rfl) ?_;rw[e1,e2];simpa[hy.gE] using this
   case copy=>
    simp only at h;cases ha:args.toList with
    | nil=>rw[ha] at h;cases h
    | cons x l=>
     cases l with
     | nil=>rw[ha] at h;cases h
     | cons y l2=>
      cases l2 with
      | cons _ _=>rw[ha] at h;cases h
      | nil=>
       cases fR:argTypes.toList with
       | nil=>rw[ha,fR] at h;cases h
       | cons t l3=>
        cases l3 with
        | nil=>rw[ha,fR] at h;cases h
        | cons u l4=>
         cases l4 with
         | cons _ _=>rw[ha,fR] at h;cases h
         | nil=>
          rw[ha,fR] at h;simp only at h;have e1:args= #[x,y]:=by grind
          have e2:argTypes= #[t,u]:=by grind
          cases hu:P.underlying t with
          | none=>rw[hu] at h;cases h
          | some d=>
           rw[hu] at h;cases d<;>(try (cases h;done))
           have:=akp (u:=u) (ty:=ty) S hu (hs.ev hg t x) (hs.ev hg u y) h;refine .val (vE Builtin.copy_ rfl) ?_;grind
   case clear=>
    simp only at h;cases ha:args.toList with
    | nil=>rw[ha] at h;cases h
    | cons x l=>
     cases l with
     | cons _ _=>rw[ha] at h;cases h
     | nil=>
      cases fR:argTypes.toList with
      | nil=>rw[ha,fR] at h;cases h
      | cons t l3=>
       cases l3 with
       | cons _ _=>rw[ha,fR] at h;cases h
       | nil=>
        rw[ha,fR] at h;simp only at h;have e1:args= #[x]:=by grind
        have e2:argTypes= #[t]:=by grind
        cases hu:P.underlying t with
        | none=>rw[hu] at h;cases h
        | some d=>
         rw[hu] at h;cases d<;>(try (cases h;done))
         have:=akq (ty:=ty) S hu (hs.ev hg t x) h;refine .val (vE Builtin.clear_ rfl) ?_;grind
   case max=>
    simp only at h;cases ha:args.toList with
    | nil=>rw[ha] at h;cases h
    | cons x l=>
     rw[ha] at h;simp only at h;have:=Ri S true (vs:=l.map a.eval) (xs:=l.map (bd P A.aL ty sl)) (hs.ev hg ty x) (by simp) (fun j u y hu hy=>by
      simp only[gD] at hu hy;cases hl:l[j]? with
      | none=>grind
      | some z=>rw[hl] at hu hy;cases hu;cases hy;exact hs.ev hg ty z) h
     refine .val (vE Builtin.max_ rfl) ?_;simpa[Builtin.max_,ha] using this
   case min=>
    simp only at h;cases ha:args.toList with
    | nil=>rw[ha] at h;cases h
    | cons x l=>
     rw[ha] at h;simp only at h;have:=Ri S false (vs:=l.map a.eval) (xs:=l.map (bd P A.aL ty sl)) (hs.ev hg ty x) (by simp) (fun j u y hu hy=>by
      simp only[gD] at hu hy;cases hl:l[j]? with
      | none=>grind
      | some z=>rw[hl] at hu hy;cases hu;cases hy;exact hs.ev hg ty z) h
     refine .val (vE Builtin.min_ rfl) ?_;simpa[Builtin.min_,ha] using this
end
section
variable {P:Program} {A:dH} {w w':World} {I I' I2:Nat→Nat→Prop} {μ β β':Nat→Option Nat} {hp hp':Nat→Option af} {C:ae} {B:Nat} {M:Nat→Prop} {w0:Start}
theorem zt: ∀{l m:List Nat},gl.qW l m=true→l=m
 | [],[],_=>rfl
 | [],_::_,h=>by cases h
 | _::_,[],h=>by cases h
 | a::l,b::m,h=>by
  simp only[gl.qW,aK,ba] at h;rw[h.1,zt h.2]
@[simp] theorem aaC (n:Nat):oC (fh n)=n:=by simp[oC,fh,V.toInt]
theorem LM: ∀(path:List (Nat×Nat)) (rest:List V),Es (path.map (·.2)) ((path.map fun p=>fh p.1)++rest)=path
 | [],_=>rfl
 | p::l,rest=>by
  simp only[iS,List.cons_append,Es,V.nth,aaC,mn,jZ,LM l rest]
theorem LN {l:LS} {x:V} {ds:List V} (h:gl l x=some ds):ds.length=l.size∧(l= .wU∨∀rest,kT l (ds++rest)=x):=by
 cases l with
 | wU=>simp only[gl,eX] at h;subst h;exact ⟨rfl,.inl rfl⟩
 | int k=>
  cases x<;>simp only[gl] at h<;>first|(cases h;done)|skip
  rename_i k' n;by_cases hk:k=k'
  ·subst hk;simp only[wK,cond_true,eX] at h;subst h;exact ⟨rfl,.inr fun _=>rfl⟩
  grind
 | bool=>
  cases x<;>simp only[gl] at h<;>first|(cases h;done)|skip
  cases h;exact ⟨rfl,.inr fun _=>rfl⟩
 | str=>
  cases x<;>simp only[gl] at h<;>first|(cases h;done)|skip
  cases h;exact ⟨rfl,.inr fun _=>rfl⟩
 | list e=>
  cases x<;>simp only[gl] at h<;>first|(cases h;done)|skip
  rename_i e' es;cases hb:Nat.beq e e' with
  | false=>grind
  | true=>
   rw[hb] at h;rw[ba] at hb;subst hb;cases h;exact ⟨rfl,.inr fun _=>rfl⟩
 | whole e j=>
  cases x<;>simp only[gl] at h<;>first|(cases h;done)|skip
  rename_i e' id;cases hb:(Nat.beq e e'&&Nat.beq j id) with
  | false=>grind
  | true=>
   rw[hb] at h;simp only[aK,ba] at hb;obtain ⟨rfl,rfl⟩:=hb;cases h;exact ⟨rfl,.inr fun _=>rfl⟩
 | sub e j=>
  cases x<;>simp only[gl] at h<;>first|(cases h;done)|skip
  rename_i e' id o n;cases hb:(Nat.beq e e'&&Nat.beq j id) with
  | false=>grind
  | true=>
   rw[hb] at h;simp only[aK,ba] at hb;obtain ⟨rfl,rfl⟩:=hb;cases h;exact ⟨rfl,.inr fun _=>by simp[kT,V.nth]⟩
 | ptr j=>
  cases x<;>simp only[gl] at h<;>first|(cases h;done)|skip
  rename_i id i c;cases hb:(Nat.beq j id) with
  | false=>grind
  | true=>
   rw[hb] at h;rw[ba] at hb;subst hb;cases h;exact ⟨rfl,.inr fun _=>by simp[kT,V.nth]⟩
 | dk j i c=>
  cases x<;>simp only[gl] at h<;>first|(cases h;done)|skip
  rename_i id i' c';cases hb:(Nat.beq j id&&(Nat.beq i i'&&Nat.beq c c')) with
  | false=>grind
  | true=>
   rw[hb] at h;simp only[aK,ba] at hb;obtain ⟨rfl,rfl,rfl⟩:=hb;cases h;exact ⟨rfl,.inr fun _=>rfl⟩
 | nilS e=>
  cases x<;>simp only[gl] at h<;>first|(cases h;done)|skip
  rename_i e';cases hb:Nat.beq e e' with
  | false=>grind
  | true=>
   rw[hb] at h;rw[ba] at hb;subst hb;cases h;exact ⟨rfl,.inr fun _=>rfl⟩
 | fg=>
  cases x<;>simp only[gl] at h<;>first|(cases h;done)|skip
  cases h;exact ⟨rfl,.inr fun _=>rfl⟩
 | cD e j=>
  cases x<;>simp only[gl] at h<;>first|(cases h;done)|skip
  rename_i e' id;cases hb:(Nat.beq e e'&&Nat.beq j id) with
  | false=>grind
  | true=>
   rw[hb] at h;simp only[aK,ba] at hb;obtain ⟨rfl,rfl⟩:=hb;cases h;exact ⟨rfl,.inr fun _=>rfl⟩
 | eY e=>
  cases x<;>simp only[gl] at h<;>first|(cases h;done)|skip
  rename_i e';cases hb:Nat.beq e e' with
  | false=>grind
  | true=>
   rw[hb] at h;rw[ba] at hb;subst hb;cases h;exact ⟨rfl,.inr fun _=>rfl⟩
 | Bs k n=>
  cases x<;>simp only[gl] at h<;>first|(cases h;done)|skip
  rename_i k' m;cases hb:(decide (k=k')&&decide (m=n)) with
  | false=>grind
  | true=>
   rw[hb] at h;simp only[aK,fl] at hb;obtain ⟨rfl,rfl⟩:=hb;cases h;exact ⟨rfl,.inr fun _=>rfl⟩
 | Kx b=>
  cases x<;>simp only[gl] at h<;>first|(cases h;done)|skip
  rename_i c;cases hb:decide (b=c) with
  | false=>grind
  | true=>
   rw[hb] at h;obtain rfl:=D0 hb;cases h;exact ⟨rfl,.inr fun _=>rfl⟩
 | row e j cs=>
  cases x<;>simp only[gl] at h<;>first|(cases h;done)|skip
  rename_i e' id ver path;cases hb:(Nat.beq e e'&&(Nat.beq j id&&(Nat.beq ver 0&&gl.qW cs (path.map (·.2))))) with
  | false=>grind
  | true=>
   rw[hb] at h;simp only[aK,ba] at hb;obtain ⟨rfl,rfl,rfl,sB⟩:=hb;have:=zt sB;subst this;cases h;exact ⟨by simp[LS.size],.inr fun rest=>by simp only[kT,LM]⟩
 | dS j cs c=>
  cases x<;>simp only[gl] at h<;>first|(cases h;done)|skip
  rename_i id ver path i c';cases hb:(Nat.beq j id&&(Nat.beq ver 0&&(Nat.beq c c'&&gl.qW cs (path.map (·.2))))) with
  | false=>grind
  | true=>
   rw[hb] at h;simp only[aK,ba] at hb;obtain ⟨rfl,rfl,rfl,sB⟩:=hb;have:=zt sB;subst this;cases h;exact ⟨by simp[LS.size],.inr fun rest=>by simp only[kT,List.cons_append,V.nth,aaC,mn,jZ,LM]⟩
def LS.below (n:Nat) (x:V):Prop:= ∀id∈fJ x,id<n
def aaD:V→Prop
 | .agg _=>False
 | .bK _=>False
 | .fn .. =>False
 | .pref .. =>False
 | _=>True
theorem zu {c:Bool} {a d:List V} (h:(bif c then some a else none)=some d):c=true:=by
 grind
theorem alk {l:LS} {x:V} {ds:List V} {n:Nat} (h:gl l x=some ds) (hl:l≠ .wU) (aw:l.ok n=true):aaD x∧LS.below n x:=by
 cases l<;>cases x<;>simp only[gl] at h<;>first|(cases h;done)|(exact absurd rfl hl)|skip
 all_goals refine ⟨trivial,fun id ab=> ?_⟩
 all_goals simp only[fJ,jF,List.not_mem_nil] at ab
 all_goals subst ab
 all_goals simp only[LS.ok,oA] at aw
 all_goals
  have hb:=zu h;simp_all
theorem ai.alm {v:Value} {x:V} (h:ai P w I β hp v x) (hx:aaD x) (hs: ∀id∈fJ x,hp' id=hp id∧β' id=β id):ai P w I β' hp' v x:=by
 have one: ∀{id},id∈fJ x→hp' id=hp id∧β' id=β id:=fun h=>hs _ h;cases h with
 | undef=>exact .undef
 | int=>exact .int
 | bool=>exact .bool
 | str h=>exact .str h
 | list h=>exact .list h
 | nilS=>exact .nilS
 | agg=>exact hx.elim
 | bK=>exact hx.elim
 | fg=>exact .fg
 | fn=>exact hx.elim
 | pref=>exact hx.elim
 | eC h=>exact .eC ((one (by simp[fJ])).1.trans h)
 | jJ h=>exact .jJ ((one (by simp[fJ])).1.trans h)
 | mr h=>exact .mr ((one (by simp[fJ])).1.trans h)
 | ej h hb=>exact .ej ((one (by simp[fJ])).1.trans h) ((one (by simp[fJ])).2.trans hb)
 | whole h hb a b c=>exact .whole ((one (by simp[fJ])).1.trans h) ((one (by simp[fJ])).2.trans hb) a b c
 | ee h hb a b c=>exact .ee ((one (by simp[fJ])).1.trans h) ((one (by simp[fJ])).2.trans hb) a b c
 | eF h hb=>exact .eF ((one (by simp[fJ])).1.trans h) ((one (by simp[fJ])).2.trans hb)
 | fC h hb a b c=>exact .fC ((one (by simp[fJ])).1.trans h) ((one (by simp[fJ])).2.trans hb) a b c
 | jo h hb=>exact .jo ((one (by simp[fJ])).1.trans h) ((one (by simp[fJ])).2.trans hb)
 | sub h hb a b c=>exact .sub ((one (by simp[fJ])).1.trans h) ((one (by simp[fJ])).2.trans hb) a b c
 | ptr h hd hb=>exact .ptr ((one (by simp[fJ])).1.trans h) hd ((one (by simp[fJ])).2.trans hb)
 | mu h vA=>exact .mu ((one (by simp[fJ])).1.trans h) vA
 | mw h vA=>exact .mw ((one (by simp[fJ])).1.trans h) vA
 | row h hb a b c d=>exact .row ((one (by simp[fJ])).1.trans h) ((one (by simp[fJ])).2.trans hb) a b c d
 | dS h hb a b c d e=>exact .dS ((one (by simp[fJ])).1.trans h) ((one (by simp[fJ])).2.trans hb) a b c d e
 | eY=>exact .eY
 | kX h=>exact .kX ((one (by simp[fJ])).1.trans h)
 | cD h hb=>exact .cD ((one (by simp[fJ])).1.trans h) ((one (by simp[fJ])).2.trans hb)
theorem LO {a b:List V} {n:Nat} (h:a.length=n):(a++b).drop n=b:=by subst h;simp
def Fq (n:Nat) (β:Nat→Option Nat) (hp:Nat→Option af) (β':Nat→Option Nat) (hp':Nat→Option af):Prop:= ∀id,id<n→hp' id=hp id∧β' id=β id
theorem aaE {l:LS} {x:V} {ds:List V} {n:Nat} {v:Value} (h:gl l x=some ds) (aw:l.ok n=true) (kf:Fq n β hp β' hp') (hv:ai P w I β hp v x) (rest:List V):
  ai P w I β' hp' v (kT l (ds++rest)):=by
 rcases (LN h).2 with e|e
 ·subst e;exact .undef
 ·rw[e rest];by_cases hu:l= .wU
  ·subst hu;have:x= .undef:=(e rest).symm;subst this;exact .undef
  ·obtain ⟨h1,h2⟩:=alk h hu aw;exact hv.alm h1 fun id ab=>kf id (h2 id ab)
theorem Fs {n:Nat} (kf:Fq n β hp β' hp'): ∀{ls:List LS} {xs:List V} {ds:List V},tC ls xs=some ds→ls.all (LS.ok n)=true→
  ds.length=mV ls∧(∀rest,(iK ls (ds++rest)).length=xs.length)∧
  ∀(rest:List V) (j:Nat) (v:Value) (y:V),(∀x,xs[j]? =some x→ai P w I β hp v x)→(iK ls (ds++rest))[j]? =some y→ai P w I β' hp' v y
 | [],[],ds,h,_=>by cases h;exact ⟨rfl,fun _=>rfl,fun rest j v y _ hy=>by simp[iK] at hy⟩
 | [],_::_,ds,h,_=>by cases h
 | _::_,[],ds,h,_=>by cases h
 | l::ls,x::xs,ds,h,aw=>by
  simp only[tC] at h;obtain ⟨a,h1,h⟩:=bind_some h;obtain ⟨b,h2,h⟩:=bind_some h;cases h;simp only[List.all_cons,aK] at aw;obtain ⟨i1,i2,i3⟩:=Fs kf h2 aw.2;have dK:=(LN h1).1;have hd: ∀rest,(a++b++rest).drop l.size=b++rest:=fun rest=>by grind
  refine ⟨by simp only[dd,mV];omega,fun rest=>by simp only[iK,List.length_cons,hd,i2],fun rest j v y hv hy=> ?_⟩;simp only[iK,hd] at hy;cases j with
  | zero=>
   simp at hy;subst hy;exact aaE h1 aw.1 kf (hv x rfl) _
  | succ j=>grind
theorem RF: ∀{ls:List LS} {xs:List V} {ds:List V},tC ls xs=some ds→ls.all LS.plain=true→ds.length=mV ls∧∀rest,iK ls (ds++rest)=xs
 | [],[],ds,h,_=>by cases h;exact ⟨rfl,fun _=>rfl⟩
 | [],_::_,ds,h,_=>by cases h
 | _::_,[],ds,h,_=>by cases h
 | l::ls,x::xs,ds,h,aw=>by
  simp only[tC] at h;obtain ⟨a,h1,h⟩:=bind_some h;obtain ⟨b,h2,h⟩:=bind_some h;cases h;simp only[List.all_cons,aK] at aw;obtain ⟨i1,i2⟩:=RF h2 aw.2;obtain ⟨dK,hm⟩:=LN h1;refine ⟨by simp only[dd,mV];omega,fun rest=> ?_⟩;simp only[iK];rw[show (a++b++rest).drop l.size=b++rest by grind,i2,fN];rcases hm with e|e
  ·subst e;cases aw.1
  ·rw[e]
theorem RG {n:Nat} (kf:Fq n β hp β' hp') {s:VS} {x:V} {ds:List V} (h:tD s x=some ds) (aw:s.ok n=true):
  ds.length=s.size∧∀(rest:List V) (v:Value),ai P w I β hp v x→ai P w I β' hp' v (nO s (ds++rest)):=by
 cases s with
 | one l=>exact ⟨(LN h).1,fun rest v hv=>aaE h aw kf hv rest⟩
 | agg ls=>
  cases x<;>simp only[tD] at h<;>first|(cases h;done)|skip
  rename_i xs;obtain ⟨i1,i2,i3⟩:=Fs (P:=P) (w:=w) (I:=I) kf h aw;refine ⟨i1,fun rest v hv=> ?_⟩;obtain ⟨cs,rfl,e1,e2⟩:=hv.nT;exact .agg (by grind) fun j v y hj hy=>i3 rest j v y (fun x hx=>e2 j v x hj hx) hy
 | bK ls=>
  cases x<;>simp only[tD] at h<;>first|(cases h;done)|skip
  rename_i xs;obtain ⟨i1,i2,i3⟩:=Fs (P:=P) (w:=w) (I:=I) kf h aw;refine ⟨i1,fun rest v hv=> ?_⟩;obtain ⟨cs,rfl,e1,e2⟩:=hv.zb;exact .bK (by grind) fun j v y hj hy=>i3 rest j v y (fun x hx=>e2 j v x hj hx) hy
 | fn f a b=>
  cases x<;>simp only[tD] at h<;>first|(cases h;done)|skip
  rename_i f' xs ys;cases hb:Nat.beq f f' with
  | false=>grind
  | true=>
   rw[hb] at h;rw[ba] at hb;subst hb;simp only[cond_true] at h;obtain ⟨p,h1,h⟩:=bind_some h;obtain ⟨q,h2,h⟩:=bind_some h;cases h;simp only[VS.ok,aK] at aw;obtain ⟨i1,i2,i3⟩:=Fs (P:=P) (w:=w) (I:=I) kf h1 aw.1;obtain ⟨j1,j2,j3⟩:=Fs (P:=P) (w:=w) (I:=I) kf h2 aw.2;refine ⟨by simp only[dd,VS.size];omega,fun rest v hv=> ?_⟩;cases hv with
   | fn a1 a2 b1 b2=>
    simp only[nO];rw[show (p++q++rest).drop (mV a)=q++rest by grind,fN];exact .fn (by grind) (fun j v y hj hy=>i3 _ j v y (fun x hx=>a2 j v x hj hx) hy) (by grind) (fun j v y hj hy=>j3 _ j v y (fun x hx=>b2 j v x hj hx) hy)
 | pref ts ls=>
  cases x<;>simp only[tD] at h<;>first|(cases h;done)|skip
  rename_i tE xs;cases hb:gl.qW ts tE with
  | false=>grind
  | true=>
   rw[hb] at h;have:=zt hb;subst this;simp only[cond_true] at h;refine ⟨?_,fun rest v hv=> ?_⟩
   ·exact (RF h aw).1
   ·simp only[nO];rw[(RF h aw).2];cases hv with
    | pref hl hI hc=>exact .pref hl hI hc
theorem Ft {n:Nat} (kf:Fq n β hp β' hp'): ∀{ls:List VS} {xs:List V} {ds:List V},uZ ls xs=some ds→ls.all (VS.ok n)=true→
  ds.length=w4 ls∧(∀rest,(ji ls (ds++rest)).length=xs.length)∧
  ∀(rest:List V) (j:Nat) (v:Value) (y:V),(∀x,xs[j]? =some x→ai P w I β hp v x)→(ji ls (ds++rest))[j]? =some y→ai P w I β' hp' v y
 | [],[],ds,h,_=>by cases h;exact ⟨rfl,fun _=>rfl,fun rest j v y _ hy=>by simp[ji] at hy⟩
 | [],_::_,ds,h,_=>by cases h
 | _::_,[],ds,h,_=>by cases h
 | l::ls,x::xs,ds,h,aw=>by
  simp only[uZ] at h;obtain ⟨a,h1,h⟩:=bind_some h;obtain ⟨b,h2,h⟩:=bind_some h;cases h;simp only[List.all_cons,aK] at aw;obtain ⟨i1,i2,i3⟩:=Ft kf h2 aw.2;obtain ⟨dK,zm⟩:=RG (P:=P) (w:=w) (I:=I) kf h1 aw.1;have hd: ∀rest,(a++b++rest).drop l.size=b++rest:=fun rest=>by grind
  refine ⟨by simp only[dd,w4];omega,fun rest=>by simp only[ji,List.length_cons,hd,i2],fun rest j v y hv hy=> ?_⟩;simp only[ji,hd] at hy;grind
end
section
variable {P:Program} {A:dH} {w w':World} {I I' I2:Nat→Nat→Prop} {μ β β':Nat→Option Nat} {hp hp' hp0:Nat→Option af} {C:ae} {B:Nat} {M:Nat→Prop} {w0:Start}
theorem kG: ∀{l:List af} {j:Nat},mW l j=l[j]?
 | [],j=>by simp[mW]
 | b::l,0=>rfl
 | b::l,j+1=>by simp only[mW,kG,List.getElem?_cons_succ]
theorem RH {sl:Nat→V} {k:Nat} {y:V}: ∀{l:List (Nat×VS)} {ds:List V},Ep sl l=some ds→(∀p∈l,∀d,tD p.2 (sl p.1)=some d→d.length=p.2.size)→
  ds.length=sg l∧∀rest,fI (iL l (ds++rest)) k=some y→∃s d jN,(k,s)∈l∧tD s (sl k)=some d∧y=nO s (d++jN)
 | [],ds,h,_=>by cases h;exact ⟨rfl,fun rest h=>by cases h⟩
 | (q,s)::l,ds,h,hz=>by
  simp only[Ep] at h;obtain ⟨a,h1,h⟩:=bind_some h;obtain ⟨b,h2,h⟩:=bind_some h;cases h;obtain ⟨i1,i2⟩:=RH (k:=k) (y:=y) h2 fun p hp=>hz p (qP _ hp);have dK:=hz (q,s) (Bh ..) a h1;refine ⟨by simp only[dd,sg];simp only at dK;omega,fun rest hl=> ?_⟩;simp only[iL,fI] at hl;rw[show (a++b++rest).drop s.size=b++rest by rw[fN];exact LO dK] at hl;cases hb:Nat.beq k q with
  | true=>
   rw[hb] at hl;rw[ba] at hb;subst hb;cases hl;exact ⟨s,a,b++rest,Bh ..,h1,by rw[fN]⟩
  | false=>
   rw[hb] at hl;obtain ⟨s',d,jN,m1,m2,m3⟩:=i2 rest hl;exact ⟨s',d,jN,qP _ m1,m2,m3⟩
theorem RI {α:Type} {c:Bool} {x:Option α} {a:α} (h:(bif c then x else none)=some a):c=true∧x=some a:=by
 cases c with
 | true=>exact ⟨rfl,h⟩
 | false=>cases h
theorem aln {n:Nat} {b:BS} {o:Option af} {ds:List V} (h:oD b o=some ds) (aw:b.ok n=true):ds.length=b.size:=by
 cases b with
 | dead=>cases o<;>(cases h;rfl)
 | var T0 ls=>
  cases o with
  | none=>cases h
  | some blk=>
   cases blk<;>simp only[oD] at h<;>first|(cases h;done)|skip
   exact (Ft (P:=default) (w:=default) (I:=fun _ _=>False) (β:=fun _=>none) (hp:=fun _=>none) (fun _ _=>⟨rfl,rfl⟩) (RI h).2 aw).1
 | arr e fz=>
  cases o with
  | none=>cases h
  | some blk=>
   cases blk<;>simp only[oD] at h<;>first|(cases h;done)|skip
   rw[zu h] at h;cases h;rfl
 | nest e=>
  cases o with
  | none=>cases h
  | some blk=>
   cases blk<;>simp only[oD] at h<;>first|(cases h;done)|skip
   rw[zu h] at h;cases h;rfl
 | map t=>
  cases o with
  | none=>cases h
  | some blk=>
   cases blk<;>simp only[oD] at h<;>first|(cases h;done)|skip
   rw[zu h] at h;cases h;rfl
theorem aaF {n:Nat}: ∀{l:List BS} {j:Nat} {ds:List V},Er hp j l=some ds→l.all (BS.ok n)=true→
  (∀rest,(gQ l (ds++rest)).length=l.length)∧∀(rest:List V) (i:Nat) (blk:af),(gQ l (ds++rest))[i]? =some blk→∃b d jN,l[i]? =some b∧b.ok n=true∧oD b (hp (j+i))=some d∧blk=jk b (d++jN)
 | [],j,ds,h,_=>by cases h;exact ⟨fun _=>rfl,fun rest i blk hb=>by simp[gQ] at hb⟩
 | b::l,j,ds,h,aw=>by
  simp only[Er] at h;obtain ⟨a,h1,h⟩:=bind_some h;obtain ⟨c,h2,h⟩:=bind_some h;cases h;simp only[List.all_cons,aK] at aw;obtain ⟨i1,i2⟩:=aaF h2 aw.2;have dK:=aln h1 aw.1;have hd: ∀rest,(a++c++rest).drop b.size=c++rest:=fun rest=>by rw[fN];exact LO dK
  refine ⟨fun rest=>by simp only[gQ,List.length_cons,hd,i1],fun rest i blk hb=> ?_⟩;simp only[gQ,hd] at hb;cases i with
  | zero=>
   simp at hb;exact ⟨b,a,c++rest,rfl,aw.1,h1,by rw[←hb]⟩
  | succ i=>
   obtain ⟨b',d,jN,m1,m2,m3,m4⟩:=i2 rest i blk (by simpa using hb);exact ⟨b',d,jN,by simpa using m1,m2,by rw[show j+(i+1)=j+1+i by omega];exact m3,m4⟩
theorem alo {n:Nat} {b:BS} {blk:af} {ds rest:List V} (h:oD b (some blk)=some ds) (aw:b.ok n=true):
  blk.le (jk b (ds++rest))∧(jk b (ds++rest)= .dead∨jk b (ds++rest)=blk∨∃T ls cs,b= .var T ls∧blk= .var T cs∧uZ ls cs=some ds∧jk b (ds++rest)= .var T (ji ls (ds++rest))):=by
 cases b with
 | dead=>exact ⟨by cases blk<;>trivial,.inl rfl⟩
 | var T0 ls=>
  cases blk<;>simp only[oD] at h<;>first|(cases h;done)|skip
  obtain ⟨hT,h0⟩:=RI h;clear h;rw[ba] at hT;subst hT;exact ⟨rfl,.inr (.inr ⟨_,_,_,rfl,rfl,h0,rfl⟩)⟩
 | arr e fz=>
  cases blk<;>simp only[oD] at h<;>first|(cases h;done)|skip
  rename_i e' es qX;have hb:=zu h;simp only[aK,ba,Bj] at hb;obtain ⟨rfl,rfl⟩:=hb;simp only[nG,beq_self_eq_true,Bi,cond_true,eX] at h;subst h;exact ⟨⟨rfl,rfl⟩,.inr (.inl rfl)⟩
 | nest e=>
  cases blk<;>simp only[oD] at h<;>first|(cases h;done)|skip
  rename_i e' es vers;have hb:=zu h;simp only[aK,ba] at hb;obtain ⟨rfl,hv⟩:=hb;have:=zt hv;subst this;simp only[nG,Bl] at h;cases h;exact ⟨⟨rfl,rfl,rfl,fun _=>az _⟩,.inr (.inl rfl)⟩
 | map t=>
  cases blk<;>simp only[oD] at h<;>first|(cases h;done)|skip
  rename_i t' es;have hb:=zu h;rw[ba] at hb;subst hb;simp only[nG,cond_true,eX] at h;subst h;exact ⟨rfl,.inr (.inl rfl)⟩
theorem aaG {m:Nat} {S:Shape} {st:St} {ds:List V} (h:lI m S st=some ds):
  S.ok=true∧m≤S.dr.length∧∃a b,Ep st.sl S.cC=some a∧Er st.hp 0 S.dr=some b∧ds=a++b:=by
 unfold lI at h;cases hc:(S.ok&&Nat.ble m S.dr.length) with
 | false=>rw[hc] at h;cases h
 | true=>
  rw[hc] at h;simp only[cond_true] at h;simp only[aK,fo] at hc;obtain ⟨a,h1,h⟩:=bind_some h;obtain ⟨b,h2,h⟩:=bind_some h;cases h;exact ⟨hc.1,hc.2,a,b,h1,h2,rfl⟩
theorem reshape {m:Nat} {S:Shape} {st:St} {ds:List V} (h:lI m S st=some ds) (hS:aB P w I β st.hp B M w0):
  aB P w I β (bZ S ds).hp B M w0∧(∀(k:Nat) (v:Value),ai P w I β st.hp v (st.sl k)→ai P w I β (bZ S ds).hp v ((bZ S ds).sl k))∧
  (∀(μ:Nat→Option Nat) (hp0:Nat→Option af),(∀id blk,hp0 id=some blk→id<m)→Le P w0.w w0.I μ hp0 w I β st.hp→Le P w0.w w0.I μ hp0 w I β (bZ S ds).hp)∧
  ∀j blk',(bZ S ds).hp j=some blk'→blk'≠ .dead→∃blk,st.hp j=some blk∧blk.le blk'∧∀o b,bB P w o blk' b→bB P w o blk b:=by
 obtain ⟨aw,hm,a,b,h1,h2,rfl⟩:=aaG h;unfold Shape.ok at aw;rw[aK] at aw;obtain ⟨oK,aao⟩:=aw;have bw: ∀p∈S.cC,∀d,tD p.2 (st.sl p.1)=some d→d.length=p.2.size:=fun p hp d hd=>
  (RG (P:=P) (w:=w) (I:=I) (β:=β) (hp:=st.hp) (fun _ _=>⟨rfl,rfl⟩) hd (gC.1 oK p hp)).1
 have dK:a.length=sg S.cC:=(RH (k:=0) (y:= .undef) h1 bw).1;have Ly:(bZ S (a++b)).hp=mW (gQ S.dr (b++[])):=by
  simp only[bZ,mk,j4];rw[LO dK]
 obtain ⟨bl,bg⟩:=aaF h2 aao;have get: ∀j blk',(bZ S (a++b)).hp j=some blk'→j<S.dr.length∧∃bs d jN,bs.ok S.dr.length=true∧oD bs (st.hp j)=some d∧blk'=jk bs (d++jN):=by
  intro j blk' hj;rw[Ly,kG] at hj;obtain ⟨bs,d,jN,m1,m2,m3,m4⟩:=bg [] j blk' hj;rw[ed] at m3;exact ⟨(cO.1 m1).1,bs,d,jN,m2,m3,m4⟩
 have have': ∀j,j<S.dr.length→∃blk',(bZ S (a++b)).hp j=some blk':=by
  intro j hj;rw[Ly,kG];exact ⟨_,cp (by rw[bl];exact hj)⟩
 generalize ga:(bZ S (a++b)).hp=zw at*
 let bX:Nat→Option af:=fun id=>if id<S.dr.length then zw id else st.hp id
 have back: ∀j blk',zw j=some blk'→blk'≠ .dead→∃blk,st.hp j=some blk∧blk.le blk'∧(blk'=blk∨∃T ls cs d jN,ls.all (VS.ok S.dr.length)=true∧blk= .var T cs∧uZ ls cs=some d∧blk'= .var T (ji ls (d++jN))):=by
  intro j blk' hj hd;obtain ⟨eD,bs,d,jN,m1,m2,m3⟩:=get j blk' hj;cases b9:st.hp j with
  | none=>
   rw[b9] at m2;cases bs<;>simp only[oD] at m2<;>first|(cases m2;done)|skip
   exact absurd m3 hd
  | some blk=>
   rw[b9] at m2;obtain ⟨n1,n2⟩:=alo (rest:=jN) m2 m1;rw[←m3] at n1 n2;refine ⟨blk,rfl,n1,?_⟩;rcases n2 with e|e|⟨T,ls,cs,e1,e2,e3,e4⟩
   ·exact absurd e hd
   ·exact .inl e
   ·subst e1;exact .inr ⟨T,ls,cs,d,jN,m1,e2,e3,e4⟩
 have le1: ∀j blk,st.hp j=some blk→j<S.dr.length→∃blk',zw j=some blk'∧blk.le blk':=by
  intro j blk hj eD;obtain ⟨blk',aA⟩:=have' j eD;refine ⟨blk',aA,?_⟩;by_cases hd:blk'= .dead
  ·subst hd;cases blk<;>trivial
  ·obtain ⟨cL,e1,e2,_⟩:=back j blk' aA hd;rw[hj] at e1;cases e1;exact e2
 have alp: ∀j e es vers e' aQ vers',st.hp j=some (.nest e es vers)→zw j=some (.nest e' aQ vers')→e'=e∧aQ=es∧vers'=vers:=by
  intro j e es vers e' aQ vers' hj jM;obtain ⟨blk,e1,_,e3⟩:=back j _ jM (by simp);rw[hj] at e1;cases e1;rcases e3 with e3|⟨_,_,_,_,_,_,e3,_⟩
  ·cases e3;exact ⟨rfl,rfl,rfl⟩
  ·cases e3
 have hle:Le P w I β st.hp w I β bX:=by
  refine ⟨fun _ _ h=>h,fun _ _ _=>rfl,fun id blk ab=> ?_,fun _ _ _ _ _ _ _ _=>rfl,Le.vo (fun _ _ _ _ _ _=>rfl) fun id e es vers e' aQ vers' ab cg=> ?_⟩
  ·by_cases hl:id<S.dr.length
   ·obtain ⟨blk',e1,e2⟩:=le1 id blk ab hl;exact ⟨blk',by simp only[bX,ah hl];exact e1,e2,fun _=>rfl⟩
   ·exact ⟨blk,by simp only[bX,ag hl];exact ab,af.le_refl _,fun _=>rfl⟩
  ·by_cases hl:id<S.dr.length
   ·simp only[bX,ah hl] at cg;exact alp _ _ _ _ _ _ _ ab cg
   ·simp only[bX,ag hl] at cg;rw[ab] at cg;cases cg;exact ⟨rfl,rfl,rfl⟩
 have kf:Fq S.dr.length β bX β zw:=fun id ab=>⟨by simp only[bX,ah ab],rfl⟩
 have sA: ∀j blk' blk o b,zw j=some blk'→st.hp j=some blk→bB P w o blk' b→bB P w o blk b:=by
  intro j blk' blk o b jM hj ho;obtain ⟨cL,e1,_,e3⟩:=back j blk' jM ho.alive;rw[hj] at e1;cases e1;rcases e3 with e3|⟨T,ls,cs,d,jN,_,e3,_,e5⟩
  ·subst e3;exact ho
  ·subst e3;subst e5;exact .root (by simp) (ho.flat (by simp))
 refine ⟨⟨⟨fun j blk' hj=> ?_,fun j1 j2 b1 b2 b' e1 e2 o1 o2=> ?_,fun j blk b' hj ho=> ?_,hS.h.jK⟩,hS.cZ,hS.size,hS.new,hS.io⟩,fun k v hv=> ?_,fun μ hp0 bf hE=> ?_,fun j blk' hj hd=> ?_⟩
 ·by_cases hd:blk'= .dead
  ·subst hd;exact .dead
  ·obtain ⟨blk,e1,_,e3⟩:=back j blk' hj hd;have hr:=hS.h.rel j blk e1;generalize β j=o at hr;rcases e3 with e3|⟨T0,ls,cs,d,jN,q1,e3,e4,e5⟩
   ·subst e3;cases hr with
    | @var xs b' Ca T hb hh hs dI hx iY=>
     obtain ⟨eD,bs,d,jN,m1,m2,m3⟩:=get j _ hj;rw[e1] at m2;cases bs<;>simp only[oD] at m2<;>first|(cases m2;done)|skip
     ·rename_i T0 ls;simp only[jk] at m3;obtain ⟨hT,m2⟩:=RI m2;obtain ⟨i1,i2,i3⟩:=Ft (P:=P) (w:=w) (I:=I) kf m2 m1;injection m3 with m4 m3;rw[m3];exact .var hb hh (by rw[i2];exact hs) dI (fun i v y hi hy=>i3 jN i v y (fun x dy=>(hx i v x hi dy).mono hle) hy) iY
     ·simp only[jk] at m3;cases m3
    | eZ hb=>exact .eZ hb
    | arr a0 a1 a2 a3 a4 a5 a6 a7=>exact .arr a0 a1 a2 a3 a4 a5 a6 a7
    | dead=>exact absurd rfl hd
    | nest a1 a2 a3=>exact .nest a1 a2 a3
    | iM a1=>exact .iM a1
    | out a1 a2 a3 a4 a5 a6 a7 a8 a9 a10=>exact .out a1 a2 a3 a4 a5 a6 a7 a8 a9 a10
    | map a1 a2 a3 a4 a5 a6 a7=>exact .map a1 a2 a3 a4 a5 a6 a7
   ·subst e3;subst e5;cases hr with
    | @var xs b' Ca T hb hh hs dI hx iY=>
     obtain ⟨i1,i2,i3⟩:=Ft (P:=P) (w:=w) (I:=I) kf e4 q1;exact .var hb hh (by rw[i2];exact hs) dI (fun i v y hi hy=>i3 jN i v y (fun x dy=>(hx i v x hi dy).mono hle) hy) iY
 ·obtain ⟨c1,x1,_,_⟩:=back j1 b1 e1 o1.alive;obtain ⟨c2,x2,_,_⟩:=back j2 b2 e2 o2.alive;exact hS.h.inj j1 j2 c1 c2 b' x1 x2 (sA _ _ _ _ _ e1 x1 o1) (sA _ _ _ _ _ e2 x2 o2)
 ·obtain ⟨c1,x1,_,_⟩:=back j blk hj ho.alive;exact hS.h.own j c1 b' x1 (sA _ _ _ _ _ hj x1 ho)
 ·change ai P w I β zw v (mq (iL S.cC (a++b)) k);unfold mq;cases RJ:fI (iL S.cC (a++b)) k with
  | none=>exact .undef
  | some y=>
   obtain ⟨s,d,jN,n1,n2,n3⟩:=(RH h1 bw).2 b RJ;simp only[Option.getD_some,n3];exact (RG (P:=P) (w:=w) (I:=I) kf n2 (gC.1 oK _ n1)).2 jN v (hv.mono hle)
 ·have h3:=hE.trans hle;refine ⟨h3.eN,h3.cZ,fun id blk ab=> ?_,fun id blk blk' b' ab cg hd hb=> ?_,fun id e es vers e' aQ vers' b2 q i c t v e1 l ab cg=> ?_⟩
  ·have hl:=bf id blk ab;obtain ⟨blk',k1,k2,k3⟩:=h3.blk id blk ab;simp only[bX,ah (show id<S.dr.length by omega)] at k1;exact ⟨blk',k1,k2,k3⟩
  ·have hl:=bf id blk ab;exact h3.size id blk blk' b' ab (by simp only[bX,ah (show id<S.dr.length by omega)];exact cg) hd hb
  ·have hl:=bf id _ ab;exact h3.row id e es vers e' aQ vers' b2 q i c t v e1 l ab (by simp only[bX,ah (show id<S.dr.length by omega)];exact cg)
 ·obtain ⟨blk,e1,e2,_⟩:=back j blk' hj hd;exact ⟨blk,e1,e2,fun o b' ho=>sA _ _ _ _ _ hj e1 ho⟩
end
section
variable {P:Program} {A:dH} {w w':World} {I I' I2:Nat→Nat→Prop} {μ β β':Nat→Option Nat} {hp hp' hp0:Nat→Option af} {C:ae} {B:Nat} {M:Nat→Prop} {w0:Start}
inductive gb (P:Program) (w:World) (β:Nat→Option Nat) (hp:Nat→Option af):Place→Option Nat→af→Prop
 | var {id:Nat} {T:TypeId} {cs RK:List V}:hp id=some (.var T cs)→gb P w β hp (.blk id) (β id) (.var T RK)
 | arr {id:Nat} {e:TypeId} {es:List V}:hp id=some (.arr e es false)→gb P w β hp (.blk id) (β id) (.arr e es false)
 | nest {id:Nat} {e:TypeId} {es:List V} {vers:List Nat}:hp id=some (.nest e es vers)→gb P w β hp (.blk id) (β id) (.nest e es [0,0,0])
 | row {id ver b b':Nat} {path:Path} {e0 e':TypeId} {es l:List V} {vers:List Nat}:hp id=some (.nest e0 es vers)→β id=some b→At P w b e0 es path b' e' l→Eo P e'=true→
   0<path.length→path.length≤vers.length→bM vers (path.length-1)=ver→0<l.length→gb P w β hp (.row id ver path) (some b') (.arr e' l false)
 | map {id:Nat} {t:TypeId} {es:List V}:hp id=some (.map t es)→gb P w β hp (.blk id) (β id) (.map t es)
def Fu (P:Program) (w:World) (β:Nat→Option Nat) (hp:Nat→Option af) (ρ:List Place) (μ:Nat→Option Nat) (hp0:Nat→Option af):Prop:=
 ∀j p,gm ρ j=some p→∃blk,hp0 j=some blk∧gb P w β hp p (μ j) blk
theorem sN: ∀{l m:List Place} {j:Nat} {p:Place},gm l j=some p→gm (l++m) j=some p
 | [],m,j,p,h=>by cases h
 | a::l,m,0,p,h=>h
 | a::l,m,j+1,p,h=>sN (l:=l) h
theorem po: ∀{l:List Place} {j:Nat},gm l j=l[j]?
 | [],j=>by simp[gm]
 | a::l,0=>rfl
 | a::l,j+1=>by simp only[gm,po,List.getElem?_cons_succ]
def alq (hp:Nat→Option af) (q:Nat×af):Prop:=BF hp q∨∃T cs,q.2= .var T cs∧hp q.1=some (.var T cs)
structure Ext (P:Program) (w:World) (I:Nat→Nat→Prop) (β:Nat→Option Nat) (hp:Nat→Option af) (h h':Hand) (d:List V) (u:List (Nat×af)):Prop where
 ds:h'.ds=h.ds++d
 upd:h'.upd=h.upd++u
 LP: ∀q∈u,alq hp q
 pl: ∃m,h'.pl=h.pl++m
 nodup:(h.pl.map Place.id).Nodup→(h'.pl.map Place.id).Nodup
theorem Ext.refl (h:Hand):Ext P w I β hp h h [] []:=⟨by simp,by simp,by simp,⟨[],by simp⟩,id⟩
theorem Ext.trans {h1 h2 h3:Hand} {d1 d2:List V} {u1 u2:List (Nat×af)} (a:Ext P w I β hp h1 h2 d1 u1) (b:Ext P w I β hp h2 h3 d2 u2):Ext P w I β hp h1 h3 (d1++d2) (u1++u2):=by
 obtain ⟨m1,e1⟩:=a.pl;obtain ⟨m2,e2⟩:=b.pl;exact ⟨by rw[b.ds,a.ds,fN],by rw[b.upd,a.upd,fN],fun q hq=>(eW.1 hq).elim (a.LP q) (b.LP q),⟨m1++m2,by rw[e2,e1,fN]⟩,fun h=>b.nodup (a.nodup h)⟩
theorem Ext.look {h h':Hand} {d:List V} {u:List (Nat×af)} (a:Ext P w I β hp h h' d u) {j:Nat} {p:Place} (hj:gm h.pl j=some p):gm h'.pl j=some p:=by
 obtain ⟨m,e⟩:=a.pl;rw[e];exact sN hj
theorem Ext.leaf (h:Hand) (x:V):Ext P w I β hp h {h with ds:=h.ds++[x]} [x] []:=⟨rfl,by simp,by simp,⟨[],by simp⟩,id⟩
theorem alr {α:Type} {ρ:List Place} {j:Nat} {p:Place} {k:List Place→Rd α} {r:α} {rd:List Nat} (h:(unify ρ j p k).run C hp=some (r,rd)) (hb: ∃id,p= .blk id∨∃ver path,p= .row id ver path):
  ∃ng,(k ng).run C hp=some (r,rd)∧(∃m,ng=ρ++m)∧gm ng j=some p∧((ρ.map Place.id).Nodup→(ng.map Place.id).Nodup):=by
 unfold unify at h;cases hc:Nat.blt j ρ.length with
 | true=>
  rw[hc] at h;obtain ⟨h1,h2⟩:=aH h;refine ⟨ρ,h2,⟨[],by simp⟩,?_,id⟩;unfold Ze at h1;split at h1
  ·rename_i a b he;rw[ba] at h1;subst h1;exact he
  ·cases h1
 | false=>
  rw[hc] at h;obtain ⟨h1,h2⟩:=aH h;simp only[aK,ba,nF] at h1;obtain ⟨rfl,h3⟩:=h1;refine ⟨ρ++[p],h2,⟨[p],rfl⟩,?_,fun hn=> ?_⟩
  ·rw[po];simp
  ·rw[qS,Km];refine ⟨hn,by simp,fun a ha b hb=> ?_⟩;simp only[iS,List.map_nil,jF] at hb;subst hb;intro e;subst e;rw[BM ha] at h3;cases h3
theorem zx {α:Type} {h:Hand} {j:Nat} {p:Place} {k:List Place→Rd α} {r:α} {rd:List Nat} (hr:(unify h.pl j p k).run C hp=some (r,rd)) (ds:List V):
  ∃ng,(k ng).run C hp=some (r,rd)∧gm ng j=some p∧Ext P w I β hp h {h with pl:=ng,ds:=h.ds++ds} ds []:=by
 obtain ⟨ng,a,b,c,d⟩:=alr hr (by cases p with|blk id=>exact ⟨id,.inl rfl⟩|row id ver path=>exact ⟨id,.inr ⟨ver,path,rfl⟩⟩);exact ⟨ng,a,c,⟨rfl,by simp,by simp,b,d⟩⟩
theorem als {o:Option Nat} {blk:af} {e:TypeId} {id j:Nat} {v:Value} (hv:ai P w I β hp v (.whole e id)) (hl:gb P w β hp (.blk id) o blk) (hj:hp0 j=some blk) (mB:μ j=o):ai P w I' μ hp0 v (.whole e j):=by
 cases hl with
 | var h=>
  cases hv with
  | eC h2=>rw[h] at h2;cases h2
  | ej h2=>rw[h] at h2;cases h2
  | whole h2=>rw[h] at h2;cases h2
  | ee h2=>rw[h] at h2;cases h2
  | eF h2=>rw[h] at h2;cases h2
  | fC h2=>rw[h] at h2;cases h2
 | arr h=>
  cases hv with
  | eC h2=>rw[h] at h2;cases h2
  | ej h2 hb=>rw[h] at h2;cases h2;exact .ej hj (mB.trans hb)
  | whole h2 hb a b c=>rw[h] at h2;cases h2;exact .whole hj (mB.trans hb) a b c
  | ee h2=>rw[h] at h2;cases h2
  | eF h2=>rw[h] at h2;cases h2
  | fC h2=>rw[h] at h2;cases h2
 | nest h=>
  cases hv with
  | eC h2=>rw[h] at h2;cases h2
  | ej h2=>rw[h] at h2;cases h2
  | whole h2=>rw[h] at h2;cases h2
  | ee h2 hb a b c=>rw[h] at h2;cases h2;exact .ee hj (mB.trans hb) a b c
  | eF h2 hb=>rw[h] at h2;cases h2;exact .eF hj (mB.trans hb)
  | fC h2=>rw[h] at h2;cases h2
 | map h=>
  cases hv with
  | eC h2=>rw[h] at h2;cases h2
  | ej h2=>rw[h] at h2;cases h2
  | whole h2=>rw[h] at h2;cases h2
  | ee h2=>rw[h] at h2;cases h2
  | eF h2=>rw[h] at h2;cases h2
  | fC h2=>rw[h] at h2;cases h2
theorem alu {o:Option Nat} {blk:af} {t:TypeId} {id j:Nat} {v:Value} (hv:ai P w I β hp v (.cD t id)) (hl:gb P w β hp (.blk id) o blk) (hj:hp0 j=some blk) (mB:μ j=o):ai P w I' μ hp0 v (.cD t j):=by
 cases hv with
 | kX h2=>cases hl<;>(rename_i h;rw[h] at h2;cases h2)
 | cD h2 hb=>
  cases hl<;>(rename_i h;rw[h] at h2;cases h2)
  exact .cD hj (mB.trans hb)
theorem alv {o:Option Nat} {blk:af} {e:TypeId} {id off n j:Nat} {v:Value} (hv:ai P w I β hp v (.sub e id off n)) (hl:gb P w β hp (.blk id) o blk) (hj:hp0 j=some blk) (mB:μ j=o):ai P w I' μ hp0 v (.sub e j off n):=by
 cases hl with
 | var h=>
  cases hv with
  | jJ h2=>rw[h] at h2;cases h2
  | jo h2=>rw[h] at h2;cases h2
  | sub h2=>rw[h] at h2;cases h2
 | arr h=>
  cases hv with
  | jJ h2=>rw[h] at h2;cases h2
  | jo h2 hb=>rw[h] at h2;cases h2;exact .jo hj (mB.trans hb)
  | sub h2 hb a b c=>rw[h] at h2;cases h2;exact .sub hj (mB.trans hb) a b c
 | nest h=>
  cases hv with
  | jJ h2=>rw[h] at h2;cases h2
  | jo h2=>rw[h] at h2;cases h2
  | sub h2=>rw[h] at h2;cases h2
 | map h=>
  cases hv with
  | jJ h2=>rw[h] at h2;cases h2
  | jo h2=>rw[h] at h2;cases h2
  | sub h2=>rw[h] at h2;cases h2
theorem aaH {o:Option Nat} {blk:af} {id i c j:Nat} {v:Value} (hv:ai P w I β hp v (.ptr id i c)) (hl:gb P w β hp (.blk id) o blk) (hj:hp0 j=some blk) (mB:μ j=o):ai P w I' μ hp0 v (.ptr j i c):=by
 cases hl with
 | @var _ T0 cs RK h=>
  obtain ⟨b,hb,rfl⟩:=hv.iZ h (by simp);exact ai.ptr (blk:= .var T0 RK) hj (by simp) (mB.trans hb)
 | @arr _ e es h=>
  obtain ⟨b,hb,rfl⟩:=hv.iZ h (by simp);exact ai.ptr (blk:= .arr e es false) hj (by simp) (mB.trans hb)
 | @nest _ e es vers h=>
  obtain ⟨b,hb,rfl⟩:=hv.iZ h (by simp);exact ai.ptr (blk:= .nest e es [0,0,0]) hj (by simp) (mB.trans hb)
 | @map _ t es h=>
  obtain ⟨b,hb,rfl⟩:=hv.iZ h (by simp);exact ai.ptr (blk:= .map t es) hj (by simp) (mB.trans hb)
theorem alw (dg: ∀id blk,hp id=some blk→fi P w I β hp (β id) blk) {id b i c:Nat} {e0 t:TypeId} {es l:List V} {vers:List Nat} {q:Path} {e:TypeId} {v:Value} (ab:hp id=some (.nest e0 es vers)) (hb:β id=some b)
  (ht:P.underlying t=some (.slice e)) (hc:qf P w b e0 es q i c t v (.list e l)) (hl:0<l.length): ∃b1 cap,v= .slice (some ⟨b1,0,none⟩) l.length cap∧cap*P.cellsOf e=bsize w b1∧l.length≤cap∧cap≤maxLen∧At P w b e0 es (q++[(i,c)]) b1 e l:=by
 obtain ⟨b2,e1,m,Ca,T,f,x,n1,n2,n3,n4,n5,n6⟩:=hc;have hr:=dg _ _ ab;cases hr with
 | iM aA=>rw[hb] at aA;cases aA
 | nest aA hr hn=>
  rw[hb] at aA;cases aA;have hR:=hr _ _ _ _ n1;obtain ⟨y9,_,c1,_,c2,c3⟩:=hR.cells;rw[n2] at c1;cases c1;have za:c<P.cellsOf e1:=by rw[←fK hR.ok];exact (cO.1 n4).1
  obtain ⟨v',d1,d2⟩:=c3 i c x t n3 n4 za;rw[n6] at d1;cases d1;rw[n5] at d2;generalize hy:V.list e l=y at d2;cases d2 with
  | gr a p=>unfold ey at a;rw[ht] at a;cases a
  | emp hu=>cases hy;simp at hl
  | row hu my bw cf sx=>
   cases hy;exact ⟨_,_,rfl,bw,cf,sx,n1.snoc n2 n3 n4 ht n5 my n6⟩
theorem alx (S:aB P w I β hp B M w0) {o:Option Nat} {blk:af} {e:TypeId} {id ver j:Nat} {path:Path} {v:Value} (hv:ai P w I β hp v (.row e id ver path)) (hl:gb P w β hp (.row id ver path) o blk) (hj:hp0 j=some blk) (mB:μ j=o):ai P w I' μ hp0 v (.whole e j):=by
 cases hl with
 | row h hb ha hf h1 h2 h3 h4=>
  obtain ⟨b2,q,i,c,t,l2,rfl,fD,ht,hc⟩:=hv.QA h h1 h2 h3;rw[hb] at fD;cases fD;obtain ⟨p1,p2⟩:=QB ha;have im:=hc;obtain ⟨b3,e3,m3,Ca,T,f,x,n1,n2,n3,n4,n5,n6⟩:=im;obtain ⟨q1,q2⟩:=K4 n1 n3 n4 ht n5;rw[p1] at q1;rw[p2] at q2;cases q1;cases q2;obtain ⟨b1,cap,rfl,m1,m2,m4,m5⟩:=alw S.h.rel h hb ht hc h4;have:=aly ha m5;subst this;exact .whole hj mB m1 m2 m4
where
 aly {b b1 b2:Nat} {e e1 e2:TypeId} {es l l2:List V} {q:Path} (h:At P w b e es q b1 e1 l) (h2:At P w b e es q b2 e2 l2):b2=b1:=(h.fun h2).1
theorem aaI (S:aB P w I β hp B M w0) {α:Type} {l:LS} {x:V} {h:Hand} {k:Hand→Rd α} {r:α} {rd:List Nat} {v:Value} (hr:(KN P l x h k).run C hp=some (r,rd)) (hv:ai P w I β hp v x):
  ∃h' gJ d u,(k h').run C hp=some (r,gJ)∧Ext P w I β hp h h' d u∧d.length=l.size∧
   ∀(I':Nat→Nat→Prop) (μ:Nat→Option Nat) (hp0:Nat→Option af),(∀b j,I b j→I' b j)→(∀q∈u,∀b j,xf P w β hp q.1 b j→I' b j)→∀ρ m,ρ=h'.pl++m→Fu P w β hp ρ μ hp0→∀rest,ai P w I' μ hp0 v (kT l (d++rest)):=by
 have plain: ∀{x':V} {jw:List Nat},(k {h with ds:=h.ds++[x']}).run C hp=some (r,jw)→l.size=1→(∀I' μ hp0 rest,ai P w I' μ hp0 v (kT l ([x']++rest)))→∃h' gJ d u,(k h').run C hp=some (r,gJ)∧Ext P w I β hp h h' d u∧d.length=l.size∧
   ∀(I':Nat→Nat→Prop) (μ:Nat→Option Nat) (hp0:Nat→Option af),(∀b j,I b j→I' b j)→(∀q∈u,∀b j,xf P w β hp q.1 b j→I' b j)→∀ρ m,ρ=h'.pl++m→Fu P w β hp ρ μ hp0→∀rest,ai P w I' μ hp0 v (kT l (d++rest)):=
  fun hk hs hx=>⟨_,_,_,_,hk,Ext.leaf h _,hs.symm,fun I' μ hp0 _ _ _ _ _ _ rest=>hx I' μ hp0 rest⟩
 have tW: ∀{jw:List Nat},(k h).run C hp=some (r,jw)→l.size=0→(∀I' μ hp0 rest,ai P w I' μ hp0 v (kT l rest))→∃h' gJ d u,(k h').run C hp=some (r,gJ)∧Ext P w I β hp h h' d u∧d.length=l.size∧
   ∀(I':Nat→Nat→Prop) (μ:Nat→Option Nat) (hp0:Nat→Option af),(∀b j,I b j→I' b j)→(∀q∈u,∀b j,xf P w β hp q.1 b j→I' b j)→∀ρ m,ρ=h'.pl++m→Fu P w β hp ρ μ hp0→∀rest,ai P w I' μ hp0 v (kT l (d++rest)):=
  fun hk hs hx=>⟨_,_,_,_,hk,Ext.refl h,by simp[hs],fun I' μ hp0 _ _ _ _ _ _ rest=>hx I' μ hp0 rest⟩
 unfold KN at hr;cases l with
 | wU=>exact tW hr rfl fun _ _ _ _=> .undef
 | int kd=>
  cases x<;>simp only at hr<;>first|(cases hr;done)|skip
  obtain ⟨h1,h2⟩:=aH hr;simp only[fl] at h1;subst h1;obtain rfl:=hv.gE;exact plain h2 rfl fun _ _ _ _=> .int
 | bool=>
  cases x<;>simp only at hr<;>first|(cases hr;done)|skip
  obtain rfl:=hv.mY;exact plain hr rfl fun _ _ _ _=> .bool
 | str=>
  cases x<;>simp only at hr<;>first|(cases hr;done)|skip
  obtain ⟨s,rfl,hl⟩:=hv.ph;exact plain hr rfl fun _ _ _ _=> .str hl
 | nilS e=>
  cases x<;>simp only at hr<;>first|(cases hr;done)|skip
  obtain ⟨h1,h2⟩:=aH hr;cases hv with
  | nilS=>exact tW h2 rfl fun _ _ _ _=> .nilS
 | fg=>
  cases x<;>simp only at hr<;>first|(cases hr;done)|skip
  cases hv with
  | fg=>exact tW hr rfl fun _ _ _ _=> .fg
 | row e j cs=>
  cases x<;>simp only at hr<;>first|(cases hr;done)|skip
  rename_i e' id ver path;obtain ⟨e0,es,vers,l0,ab,p1,p2,p3,hr⟩:=ra hr;obtain ⟨h1,h2⟩:=aH hr;simp only[aK,ba,fo] at h1;obtain ⟨rfl,sB,hp3⟩:=h1;have:=zt sB;subst this;obtain ⟨ng,a,b,c⟩:=zx (P:=P) (w:=w) (I:=I) (β:=β) h2 (path.map fun p=>fh p.1);refine ⟨_,_,path.map fun p=>fh p.1,[],a,c,by simp[LS.size],fun I' μ hp0 i1 i2 ρ m eJ cX rest=> ?_⟩;obtain ⟨blk,k1,k2⟩:=cX j _ (by rw[eJ];exact sN b);obtain ⟨bb,q,i,cc,t,l,rfl,hb,ht,hc⟩:=hv.QA ab p1 p2 p3;have sy:blk= .nest e0 es [0,0,0]∧μ j=β id:=by
   generalize μ j=o at k2;cases k2 with
   | var h=>rw[ab] at h;cases h
   | arr h=>rw[ab] at h;cases h
   | map h=>rw[ab] at h;cases h
   | nest h=>rw[ab] at h;cases h;exact ⟨rfl,rfl⟩
  obtain ⟨rfl,mB⟩:=sy;simp only[kT,LM];have hq:q.length<3:=by rw[dd,List.length_singleton] at hp3;omega
  refine .row k1 (mB.trans hb) (by simpa using hq) ?_ ht hc
  match q.length,hq with
  | 0,_=>rfl
  | 1,_=>rfl
  | 2,_=>rfl
 | dS j cs c=>cases hr
 | Bs k n=>cases hr
 | Kx b=>cases hr
 | eY t=>
  cases x<;>simp only at hr<;>first|(cases hr;done)|skip
  obtain ⟨h1,h2⟩:=aH hr;cases hv with
  | eY=>exact tW h2 rfl fun _ _ _ _=> .eY
 | cD t j=>
  cases x<;>simp only at hr<;>first|(cases hr;done)|skip
  rename_i t' id;obtain ⟨h1,h2⟩:=aH hr;rw[ba] at h1;subst h1;obtain ⟨ng,a,b,c⟩:=zx (P:=P) (w:=w) (I:=I) (β:=β) h2 [];refine ⟨_,_,[],[],a,by simpa using c,rfl,fun I' μ hp0 i1 i2 ρ m eJ cX rest=> ?_⟩;obtain ⟨blk,k1,k2⟩:=cX j _ (by rw[eJ];exact sN b);exact alu hv k2 k1 rfl
 | list e=>
  obtain ⟨⟨y,u⟩,l1,l2,h1,h2⟩:=oF hr;cases y<;>simp only at h2<;>first|(cases h2;done)|skip
  rename_i e' es;obtain ⟨h3,h4⟩:=aH h2;rw[ba] at h3;subst h3;obtain ⟨p1,p2⟩:=K5 S.h.rel h1 hv;exact ⟨_,_,[.list e es],u,h4,⟨rfl,rfl,fun q hq=> .inl (p1 q hq),⟨[],by simp⟩,id⟩,rfl,fun I' μ hp0 i1 i2 _ _ _ _ rest=> .list (p2 I' i1 i2)⟩
 | whole e j=>
  cases x<;>simp only at hr<;>first|(cases hr;done)|skip
  ·rename_i e' id;obtain ⟨h1,h2⟩:=aH hr;rw[ba] at h1;subst h1;obtain ⟨ng,a,b,c⟩:=zx (P:=P) (w:=w) (I:=I) (β:=β) h2 [];refine ⟨_,_,[],[],a,by simpa using c,rfl,fun I' μ hp0 i1 i2 ρ m eJ cX rest=> ?_⟩;obtain ⟨blk,k1,k2⟩:=cX j _ (by rw[eJ];exact sN b);exact als hv k2 k1 rfl
  ·rename_i e' id ver path;obtain ⟨h1,h2⟩:=aH hr;rw[ba] at h1;subst h1;obtain ⟨ng,a,b,c⟩:=zx (P:=P) (w:=w) (I:=I) (β:=β) h2 [];refine ⟨_,_,[],[],a,by simpa using c,rfl,fun I' μ hp0 i1 i2 ρ m eJ cX rest=> ?_⟩;obtain ⟨blk,k1,k2⟩:=cX j _ (by rw[eJ];exact sN b);exact alx S hv k2 k1 rfl
 | sub e j=>
  cases x<;>simp only at hr<;>first|(cases hr;done)|skip
  rename_i e' id o n;obtain ⟨h1,h2⟩:=aH hr;rw[ba] at h1;subst h1;obtain ⟨ng,a,b,c⟩:=zx (P:=P) (w:=w) (I:=I) (β:=β) h2 [fh o,fh n];refine ⟨_,_,[fh o,fh n],[],a,c,rfl,fun I' μ hp0 i1 i2 ρ m eJ cX rest=> ?_⟩;obtain ⟨blk,k1,k2⟩:=cX j _ (by rw[eJ];exact sN b);simpa[kT,V.nth] using alv (I':=I') hv k2 k1 rfl
 | ptr j=>
  cases x<;>simp only at hr<;>first|(cases hr;done)|skip
  rename_i id i c;obtain ⟨ng,a,b,c'⟩:=zx (P:=P) (w:=w) (I:=I) (β:=β) hr [fh i,fh c];refine ⟨_,_,[fh i,fh c],[],a,c',rfl,fun I' μ hp0 i1 i2 ρ m eJ cX rest=> ?_⟩;obtain ⟨blk,k1,k2⟩:=cX j _ (by rw[eJ];exact sN b);simpa[kT,V.nth] using aaH (I':=I') hv k2 k1 rfl
 | dk j i c=>
  cases x<;>simp only at hr<;>first|(cases hr;done)|skip
  rename_i id i' c';obtain ⟨h1,h2⟩:=aH hr;simp only[aK,ba] at h1;obtain ⟨rfl,rfl⟩:=h1;obtain ⟨ng,a,b,c'⟩:=zx (P:=P) (w:=w) (I:=I) (β:=β) h2 [];refine ⟨_,_,[],[],a,by simpa using c',rfl,fun I' μ hp0 i1 i2 ρ m eJ cX rest=> ?_⟩;obtain ⟨blk,k1,k2⟩:=cX j _ (by rw[eJ];exact sN b);exact aaH hv k2 k1 rfl
end
section
variable {P:Program} {A:dH} {w w':World} {I I' I2:Nat→Nat→Prop} {μ β β':Nat→Option Nat} {hp hp' hp0:Nat→Option af} {C:ae} {B:Nat} {M:Nat→Prop} {w0:Start}
def pq (P:Program) (w:World) (I:Nat→Nat→Prop) (β:Nat→Option Nat) (hp:Nat→Option af) (h':Hand) (u:List (Nat×af)) (K:(Nat→Nat→Prop)→(Nat→Option Nat)→(Nat→Option af)→Prop):Prop:=
 ∀(I':Nat→Nat→Prop) (μ:Nat→Option Nat) (hp0:Nat→Option af),(∀b j,I b j→I' b j)→(∀q∈u,∀b j,xf P w β hp q.1 b j→I' b j)→∀ρ m,ρ=h'.pl++m→Fu P w β hp ρ μ hp0→K I' μ hp0
theorem pq.later {h h':Hand} {d:List V} {u u':List (Nat×af)} {K:(Nat→Nat→Prop)→(Nat→Option Nat)→(Nat→Option af)→Prop} (t:pq P w I β hp h u K) (e:Ext P w I β hp h h' d u'):pq P w I β hp h' (u++u') K:=by
 obtain ⟨m1,e1⟩:=e.pl;exact fun I' μ hp0 i1 i2 ρ m eJ cX=>t I' μ hp0 i1 (fun q hq=>i2 q (eW.2 (.inl hq))) ρ (m1++m) (by grind) cX
theorem pq.more {h:Hand} {u u':List (Nat×af)} {K:(Nat→Nat→Prop)→(Nat→Option Nat)→(Nat→Option af)→Prop} (t:pq P w I β hp h u K):pq P w I β hp h (u'++u) K:=
 fun I' μ hp0 i1 i2 ρ m eJ cX=>t I' μ hp0 i1 (fun q hq=>i2 q (eW.2 (.inr hq))) ρ m eJ cX
theorem Fv (S:aB P w I β hp B M w0) {α:Type}: ∀{ls:List LS} {xs:List V} {h:Hand} {k:Hand→Rd α} {r:α} {rd:List Nat} {vs:List Value},(vc P ls xs h k).run C hp=some (r,rd)→vs.length=xs.length→
  (∀(j:Nat) v x,vs[j]? =some v→xs[j]? =some x→ai P w I β hp v x)→
  ∃h' gJ d u,(k h').run C hp=some (r,gJ)∧Ext P w I β hp h h' d u∧d.length=mV ls∧ls.length=xs.length∧
   pq P w I β hp h' u fun I' μ hp0=> ∀rest,(iK ls (d++rest)).length=xs.length∧∀(j:Nat) v y,vs[j]? =some v→(iK ls (d++rest))[j]? =some y→ai P w I' μ hp0 v y
 | [],[],h,k,r,rd,vs,hr,hl,hv=>⟨h,rd,[],[],hr,Ext.refl h,rfl,rfl,fun I' μ hp0 _ _ _ _ _ _ rest=>⟨rfl,fun j v y _ hy=>by grind⟩⟩
 | [],_::_,h,k,r,rd,vs,hr,hl,hv=>by cases hr
 | _::_,[],h,k,r,rd,vs,hr,hl,hv=>by cases hr
 | l::ls,x::xs,h,k,r,rd,vs,hr,hl,hv=>by
  cases vs with
  | nil=>simp at hl
  | cons v vs=>
   simp only[vc] at hr;obtain ⟨h1,jw,d1,u1,a1,a2,a3,a4⟩:=aaI S hr (hv 0 v x rfl rfl);obtain ⟨h2,xy,d2,u2,b1,b2,b3,b5,b4⟩:=Fv S a1 (by grind) (vs:=vs) (fun j v x hj hx=>hv (j+1) v x (by grind) (by grind));have a4':pq P w I β hp h1 u1 fun I' μ hp0=> ∀rest,ai P w I' μ hp0 v (kT l (d1++rest)):=a4;refine ⟨h2,xy,d1++d2,u1++u2,b1,a2.trans b2,by simp only[dd,mV];omega,by simp[b5],fun I' μ hp0 i1 i2 ρ m eJ cX rest=> ?_⟩;have k1:=(a4'.later b2) I' μ hp0 i1 i2 ρ m eJ cX (d2++rest);obtain ⟨k2,k3⟩:=b4.more I' μ hp0 i1 i2 ρ m eJ cX rest;simp only[iK];grind
theorem alz {t:TypeId} {v:Value} {y:V} (hv:ai P w I β hp v y) (h:fp P t y=true):Plain P w I v y:=by
 cases y with
 | int k n=>exact hv.gE
 | bool b=>exact hv.mY
 | str s=>obtain ⟨s',rfl,hs⟩:=hv.ph;exact ⟨s',rfl,hs⟩
 | list e es=>cases hv with
  | list hp'=>exact hp'
 | _=>unfold fp at h;grind
theorem aaJ: ∀{ts:List TypeId} {ls:List LS},Bz P ts ls=true→ts.length=ls.length∧∀(ds:List V) (j:Nat) t y,ts[j]? =some t→(iK ls ds)[j]? =some y→fp P t y=true
 | [],[],_=>⟨rfl,fun ds j t y h=>by simp at h⟩
 | [],_::_,h=>by cases h
 | _::_,[],h=>by cases h
 | t::ts,l::ls,h=>by
  simp only[Bz,aK] at h;obtain ⟨h1,h2⟩:=aaJ h.2;refine ⟨by simp[h1],fun ds j t' y ht hy=> ?_⟩;cases j with
  | succ j=>exact h2 _ j t' y (by grind) (by simpa[iK] using hy)
  | zero=>
   simp[iK] at ht hy;subst ht;subst hy;have h:=h.1;unfold fp;split at h<;>simp_all [kT]
theorem alA (S:aB P w I β hp B M w0) {α:Type} {s:VS} {x:V} {h:Hand} {k:Hand→Rd α} {r:α} {rd:List Nat} {v:Value} (hr:(BA P s x h k).run C hp=some (r,rd)) (hv:ai P w I β hp v x):
  ∃h' gJ d u,(k h').run C hp=some (r,gJ)∧Ext P w I β hp h h' d u∧d.length=s.size∧
   pq P w I β hp h' u fun I' μ hp0=> ∀rest,ai P w I' μ hp0 v (nO s (d++rest)):=by
 cases s with
 | one l=>
  simp only[BA] at hr;obtain ⟨h1,jw,d1,u1,a1,a2,a3,a4⟩:=aaI S hr hv;exact ⟨h1,jw,d1,u1,a1,a2,a3,a4⟩
 | agg ls=>
  cases x<;>simp only[BA] at hr<;>first|(cases hr;done)|skip
  rename_i xs;obtain ⟨cs,rfl,e1,e2⟩:=hv.nT;obtain ⟨h1,jw,d1,u1,a1,a2,a3,a5,a4⟩:=Fv S hr (vs:=cs.toList) (by omega) (fun j v x hj hx=>e2 j v x (by grind) hx);refine ⟨h1,jw,d1,u1,a1,a2,a3,fun I' μ hp0 i1 i2 ρ m eJ cX rest=> ?_⟩;obtain ⟨k1,k2⟩:=a4 I' μ hp0 i1 i2 ρ m eJ cX rest;exact .agg (by omega) fun j v y hj hy=>k2 j v y (by grind) hy
 | bK ls=>cases x<;>cases hr
 | pref ts ls=>
  have cells: ∀{xs:List V} {vs:List Value} {h0:Hand} {rd0:List Nat},(vc P ls xs h0 k).run C hp=some (r,rd0)→vs.length=xs.length→Bz P ts ls=true→(∀(j:Nat) v x,vs[j]? =some v→xs[j]? =some x→ai P w I β hp v x)→
    ∃h' gJ d u,(k h').run C hp=some (r,gJ)∧Ext P w I β hp h0 h' d u∧d.length=mV ls∧ls.length=xs.length∧pq P w I β hp h' u fun I' μ hp0=> ∀rest,(iK ls (d++rest)).length=xs.length∧ts.length=xs.length∧
     ∀(j:Nat) t v y,vs[j]? =some v→ts[j]? =some t→(iK ls (d++rest))[j]? =some y→Pure P w I' t v y:=by
   intro xs vs h0 rd0 hr0 hl fj hv0;obtain ⟨h1,jw,d1,u1,a1,a2,a3,a5,a4⟩:=Fv S hr0 hl hv0;obtain ⟨t1,t2⟩:=aaJ fj;refine ⟨h1,jw,d1,u1,a1,a2,a3,a5,fun I' μ hp0 i1 i2 ρ m eJ cX rest=> ?_⟩;obtain ⟨k1,k2⟩:=a4 I' μ hp0 i1 i2 ρ m eJ cX rest;exact ⟨k1,t1.trans a5,fun j t v y hj ht hy=>(alz (k2 j v y hj hy) (t2 _ j t y ht hy)).pure (t2 _ j t y ht hy)⟩
  cases x<;>simp only[BA] at hr<;>first|(cases hr;done)|skip
  ·rename_i id i c;obtain ⟨l0,vF⟩:=run_get hr;clear hr;cases ab:hp id with
   | none=>rw[ab] at vF;cases vF
   | some blk=>
    rw[ab] at vF;cases blk<;>simp only at vF<;>first|(cases vF;done)|skip
    rename_i T cs;obtain ⟨hc,qo⟩:=aH vF;clear vF;simp only[aK,ba,fo] at hc;obtain ⟨rfl,fj,hle⟩:=hc;obtain ⟨b,hb,rfl⟩:=hv.iZ ab (by simp);have dg:=S.h.rel id _ ab;rw[hb] at dg;cases dg with
    | @var _ _ Ca _ aA hh hs hI hx _=>
    cases aA;obtain ⟨h1,jw,d1,u1,a1,a2,a3,a5,a4⟩:=cells qo (vs:=(Ca.toList.drop c).take ls.length) (by simp;omega) fj (fun j v x hj dy=>by
     grind)
    refine ⟨h1,jw,d1,(id,.var T cs)::u1,a1,⟨a2.ds,by rw[a2.upd];simp,fun q hq=> ?_,a2.pl,a2.nodup⟩,a3,fun I' μ hp0 i1 i2 ρ m eJ cX rest=> ?_⟩
    ·rcases iR.1 hq with rfl|hq
     ·exact .inr ⟨T,cs,rfl,ab⟩
     ·exact a2.LP q hq
    ·obtain ⟨k1,k2,k3⟩:=a4 I' μ hp0 i1 (fun q hq=>i2 q (qP _ hq)) ρ m eJ cX rest;have hn:(iK ls (d1++rest)).length=ls.length:=k1.trans a5.symm;simp only[nO,af.sz,Nat.zero_mul,ed];refine .pref (k2.trans k1.symm) (fun j hj=>i2 _ (Bh ..) b (c+j) ⟨_,ab,.var hb (by omega)⟩) (fun j t y ht hy=> ?_);have hj:=(cO.1 hy).1;have sB:c+j<Ca.size:=by omega
     refine ⟨Ca[c+j],by rw[cell?_cells hh];grind,k3 j t _ y ?_ ht hy⟩;grind
  ·rename_i tE cs;obtain ⟨hc,qo⟩:=aH hr;clear hr;simp only[aK,fo] at hc;obtain ⟨hts,fj,hle⟩:=hc;have hts:=zt hts;obtain ⟨b,o,rfl,q1,q2,q3⟩:=hv.EV;have hg: ∀j,j<cs.length→∃v,w.cell? ⟨b,o+j,none⟩=some v∧∃t,tE[j]? =some t∧∀x,cs[j]? =some x→Pure P w I t v x:=fun j hj=>by
    simp_all
   let vs:List Value:=(List.range ls.length).map fun j=>(w.cell? ⟨b,o+j,none⟩).getD undef
   have Lg: ∀(j:Nat),j<ls.length→vs[j]? =some ((w.cell? ⟨b,o+j,none⟩).getD undef):=fun j hj=>by grind
   obtain ⟨h1,jw,d1,u1,a1,a2,a3,a5,a4⟩:=cells qo (vs:=vs) (by grind) fj (fun j v x hj dy=>by
    have eD:j<ls.length:=by grind
    rw[iQ eD] at dy;obtain ⟨v',v1,t,_,v2⟩:=hg j (by omega);rw[Lg j eD,v1] at hj;cases hj;exact .tH (v2 x dy))
   refine ⟨h1,jw,d1,u1,a1,a2,a3,fun I' μ hp0 i1 i2 ρ m eJ cX rest=> ?_⟩;obtain ⟨k1,k2,k3⟩:=a4 I' μ hp0 i1 i2 ρ m eJ cX rest;have hn:(iK ls (d1++rest)).length=ls.length:=k1.trans a5.symm;refine .pref (k2.trans k1.symm) (fun j hj=>i1 _ _ (q2 j (by omega))) (fun j t y ht hy=> ?_);grind
 | fn f a b=>
  cases x<;>simp only[BA] at hr<;>first|(cases hr;done)|skip
  rename_i f' xs ys;obtain ⟨hc,qo⟩:=aH hr;clear hr;rw[ba] at hc;subst hc;cases hv with
  | @fn _ fs cs _ _ q1 q2 q3 q4=>
   obtain ⟨h1,jw,d1,u1,a1,a2,a3,a5,a4⟩:=Fv S qo (vs:=fs.toList) (by omega) (fun j v x hj hx=>q2 j v x (by grind) hx);obtain ⟨h2,xy,d2,u2,b1,b2,b3,b5,b4⟩:=Fv S a1 (vs:=cs.toList) (by omega) (fun j v x hj hx=>q4 j v x (by grind) hx);refine ⟨h2,xy,d1++d2,u1++u2,b1,a2.trans b2,by simp only[dd,VS.size];omega,fun I' μ hp0 i1 i2 ρ m eJ cX rest=> ?_⟩;obtain ⟨k1,k2⟩:=(a4.later b2) I' μ hp0 i1 i2 ρ m eJ cX (d2++rest);obtain ⟨k3,k4⟩:=b4.more I' μ hp0 i1 i2 ρ m eJ cX rest;simp only[nO];rw[show (d1++d2++rest).drop (mV a)=d2++rest by grind,fN];exact .fn (by omega) (fun j v y hj hy=>k2 j v y (by grind) hy) (by omega) (fun j v y hj hy=>k4 j v y (by grind) hy)
theorem RL (S:aB P w I β hp B M w0) {α:Type}: ∀{ls:List VS} {xs:List V} {h:Hand} {k:Hand→Rd α} {r:α} {rd:List Nat} {vs:List Value},(Et P ls xs h k).run C hp=some (r,rd)→vs.length=xs.length→
  (∀(j:Nat) v x,vs[j]? =some v→xs[j]? =some x→ai P w I β hp v x)→
  ∃h' gJ d u,(k h').run C hp=some (r,gJ)∧Ext P w I β hp h h' d u∧d.length=w4 ls∧ls.length=xs.length∧
   pq P w I β hp h' u fun I' μ hp0=> ∀rest,(ji ls (d++rest)).length=xs.length∧∀(j:Nat) v y,vs[j]? =some v→(ji ls (d++rest))[j]? =some y→ai P w I' μ hp0 v y
 | [],[],h,k,r,rd,vs,hr,hl,hv=>⟨h,rd,[],[],hr,Ext.refl h,rfl,rfl,fun I' μ hp0 _ _ _ _ _ _ rest=>⟨rfl,fun j v y _ hy=>by grind⟩⟩
 | [],_::_,h,k,r,rd,vs,hr,hl,hv=>by cases hr
 | _::_,[],h,k,r,rd,vs,hr,hl,hv=>by cases hr
 | l::ls,x::xs,h,k,r,rd,vs,hr,hl,hv=>by
  cases vs with
  | nil=>simp at hl
  | cons v vs=>
   simp only[Et] at hr;obtain ⟨h1,jw,d1,u1,a1,a2,a3,a4⟩:=alA S hr (hv 0 v x rfl rfl);obtain ⟨h2,xy,d2,u2,b1,b2,b3,b5,b4⟩:=RL S a1 (by grind) (vs:=vs) (fun j v x hj hx=>hv (j+1) v x (by grind) (by grind));refine ⟨h2,xy,d1++d2,u1++u2,b1,a2.trans b2,by simp only[dd,w4];omega,by simp[b5],fun I' μ hp0 i1 i2 ρ m eJ cX rest=> ?_⟩;have k1:=(a4.later b2) I' μ hp0 i1 i2 ρ m eJ cX (d2++rest);obtain ⟨k2,k3⟩:=b4.more I' μ hp0 i1 i2 ρ m eJ cX rest;simp only[ji];grind
def LQ:List BS→Nat
 | []=>0
 | b::l=>b.size+LQ l
theorem aaK: ∀{b:Nat} {e e':TypeId} {es:List V} {v:V},(∀q b' e' m,At P w b e es q b' e' m→iB P w I b' e' m)→∀(path:Path),nK P e path=some e'→kS P e es path=some v→0<v.toList.length→
  ∃b1,At P w b e es path b1 e' v.toList
 | b,e,e',es,v,dm,[],ht,hv,hl=>by
  simp only[nK,eX] at ht;simp only[kS,eX] at hv;subst ht;subst hv;exact ⟨b,.here⟩
 | b,e,e',es,v,dm,(i,c)::q,ht,hv,hl=>by
  simp only[nK] at ht;simp only[kS] at hv;obtain ⟨x,hx,hv⟩:=bind_some hv;cases htc:(nK.Ek P e)[c]? with
  | none=>grind
  | some t=>
   rw[htc] at ht;simp only at ht;have RM:(bc P e)[c]? =some t:=htc;cases hu:P.underlying t with
   | none=>grind
   | some d=>
    rw[hu] at ht;cases d<;>simp only at ht<;>first|(cases ht;done)|skip
    rename_i e1;rw[rb RM] at hv;have hR:=dm _ _ _ _ .here;obtain ⟨Ca,_,c1,_,c2,c3⟩:=hR.cells;have za:c<P.cellsOf e:=by rw[←fK hR.ok];grind
    obtain ⟨u,d1,d2⟩:=c3 i c x t hx RM za;rw[d2.xj] at hv;generalize hy:cu P e x c=y at d2 hv;cases d2 with
    | gr a p=>unfold ey at a;grind
    | @emp e2 a ub=>
     rw[hu] at ub;cases ub;simp only at hv;cases q with
     | nil=>simp only[kS,eX] at hv;subst hv;simp[V.toList] at hl
     | cons a q=>simp[kS] at hv
    | @row e2 cb b2 cap ub my bw cf sx=>
     rw[hu] at ub;cases ub;simp only at hv;have gS: ∀{q b' e' aQ},At P w b2 e1 cb q b' e' aQ→At P w b e es ((i,c)::q) b' e' aQ:=fun h=> .step c1 hx RM hu hy my d1 h;obtain ⟨b1,lO⟩:=aaK (fun q b' e' m h=>dm _ _ _ _ (gS h)) q ht hv hl;grind
theorem aaL (S:aB P w I β hp B M w0) {α:Type}: ∀{bs:List BS} {j:Nat} {h:Hand} {k:Hand→Rd α} {r:α} {rd:List Nat},(vd P bs j h k).run C hp=some (r,rd)→
  ∃h' gJ d u,(k h').run C hp=some (r,gJ)∧Ext P w I β hp h h' d u∧d.length=LQ bs∧
   ∀rest,(gQ bs (d++rest)).length=bs.length∧∃o:Nat→Option Nat,
    (∀(i:Nat) blk,(gQ bs (d++rest))[i]? =some blk→∃p,gm h'.pl (j+i)=some p∧gb P w β hp p (o i) blk)∧
    pq P w I β hp h' u fun I' μ hp0=> ∀(i:Nat) blk,(gQ bs (d++rest))[i]? =some blk→(∀b,bB P w (o i) blk b→∀j,¬I' b j)→fi P w I' μ hp0 (o i) blk
 | [],j,h,k,r,rd,hr=>⟨h,rd,[],[],hr,Ext.refl h,rfl,fun rest=>⟨rfl,fun _=>none,fun i blk hb=>by simp[gQ] at hb,fun I' μ hp0 _ _ _ _ _ _ i blk hb=>by simp[gQ] at hb⟩⟩
 | b::bs,j,h,k,r,rd,hr=>by
  simp only[vd] at hr;have fin: ∀{h1:Hand} {jw:List Nat} {d1:List V} {u1:List (Nat×af)} {o1:Option Nat} {p:Place},(vd P bs (j+1) h1 k).run C hp=some (r,jw)→Ext P w I β hp h h1 d1 u1→d1.length=b.size→gm h.pl j=some p→
    (∀rest,gb P w β hp p o1 (jk b (d1++rest)))→(∀rest,pq P w I β hp h1 u1 fun I' μ hp0=>(∀bb,bB P w o1 (jk b (d1++rest)) bb→∀j,¬I' bb j)→fi P w I' μ hp0 o1 (jk b (d1++rest)))→
    ∃h' gJ d u,(k h').run C hp=some (r,gJ)∧Ext P w I β hp h h' d u∧d.length=LQ (b::bs)∧
     ∀rest,(gQ (b::bs) (d++rest)).length=(b::bs).length∧∃o:Nat→Option Nat,
      (∀(i:Nat) blk,(gQ (b::bs) (d++rest))[i]? =some blk→∃p,gm h'.pl (j+i)=some p∧gb P w β hp p (o i) blk)∧
      pq P w I β hp h' u fun I' μ hp0=> ∀(i:Nat) blk,(gQ (b::bs) (d++rest))[i]? =some blk→(∀b,bB P w (o i) blk b→∀j,¬I' b j)→fi P w I' μ hp0 (o i) blk:=by
   intro h1 jw d1 u1 o1 p hk he hd bX hl ht;obtain ⟨h2,xy,d2,u2,b1,b2,b3,b4⟩:=aaL S hk;refine ⟨h2,xy,d1++d2,u1++u2,b1,he.trans b2,by simp only[dd,LQ];omega,fun rest=> ?_⟩;obtain ⟨c1,o,c2,c3⟩:=b4 rest;simp only[gQ];rw[show (d1++d2++rest).drop b.size=d2++rest by grind,fN];refine ⟨by simp[c1],fun i=>match i with|0=>o1|i+1=>o i,fun i blk hb=> ?_,fun I' μ hp0 i1 i2 ρ m eJ cX i blk hb dI=> ?_⟩
   ·cases i with
    | zero=>
     simp at hb;subst hb;exact ⟨p,b2.look (he.look bX),hl _⟩
    | succ i=>
     grind
   ·cases i with
    | zero=>
     simp at hb;subst hb;exact ((ht _).later b2) I' μ hp0 i1 i2 ρ m eJ cX dI
    | succ i=>exact c3.more I' μ hp0 i1 i2 ρ m eJ cX i blk (by grind) dI
  cases bX:gm h.pl j with
  | none=>rw[bX] at hr;cases hr
  | some p=>
   rw[bX] at hr;cases p with
   | blk id=>
    obtain ⟨l1,hr⟩:=run_get hr;cases ab:hp id with
    | none=>rw[ab] at hr;cases hr
    | some blk=>
     rw[ab] at hr;cases blk with
     | dead=>cases hr
     | out _ _ _ _=>cases hr
     | var T0 cs=>
      cases b<;>simp only at hr<;>first|(cases hr;done)|skip
      rename_i T1 ss;obtain ⟨hT,vF⟩:=aH hr;clear hr;rw[ba] at hT;subst hT;have dg:=S.h.rel id _ ab;generalize ho:β id=o at dg;cases dg with
      | @var _ bb Ca T hb hh hs hI hx iY=>
       obtain ⟨h1,jw,d1,u1,a1,a2,a3,a5,a4⟩:=RL S vF (vs:=Ca.toList) (by omega) (fun j v x hj dy=>hx j v x (by grind) dy);refine fin (o1:=β id) a1 a2 a3 bX (fun rest=> .var ab) fun rest I' μ hp0 i1 i2 ρ m eJ cX dI=> ?_;obtain ⟨k1,k2⟩:=a4 I' μ hp0 i1 i2 ρ m eJ cX rest;exact .var (ho.trans hb) hh (by omega) (dI _ (.root (by simp[jk]) (ho.trans hb))) (fun i v y hi hy=>k2 i v y (by grind) hy) iY
     | arr e' es fz=>
      cases fz with
      | true=>cases hr
      | false=>
       cases b with
       | arr e fz=>
        cases fz with
        | true=>cases hr
        | false=>
         obtain ⟨hc,qo⟩:=aH hr;clear hr;rw[ba] at hc;subst hc;refine fin (d1:=[.list e es]) (o1:=β id) qo (Ext.leaf h _) rfl bX (fun rest=>gb.arr ab) fun rest I' μ hp0 i1 i2 ρ m eJ cX dI=> ?_;change fi P w I' μ hp0 (β id) (.arr e es false);have dg:=S.h.rel id _ ab;generalize ho:β id=o at dg dI⊢;cases dg with
         | eZ hb=>exact .eZ hb
         | arr a0 a1 a2 a3 a4 a5 a6 a7=>
          refine .arr a0 a1 a2 a3 a4 (fun h=>by cases h) (fun _=>dI _ (.root (by simp[jk]) a2)) fun i j x t' y1 y2 y3=> ?_;obtain ⟨v,z1,z2⟩:=a7 i j x t' y1 y2 y3;exact ⟨v,z1,z2.mono i1 fun _ _ _=>rfl⟩
       | _=>cases hr
     | nest e' es vers=>
      cases b with
      | nest e=>
       obtain ⟨hc,qo⟩:=aH hr;clear hr;rw[ba] at hc;subst hc;refine fin (d1:=[.list e es]) (o1:=β id) qo (Ext.leaf h _) rfl bX (fun rest=>gb.nest ab) fun rest I' μ hp0 i1 i2 ρ m eJ cX dI=> ?_;have aaM: ∀bb,bB P w (β id) (.nest e es [0,0,0]) bb→∀j,¬I' bb j:=dI;change fi P w I' μ hp0 (β id) (.nest e es [0,0,0]);have dg:=S.h.rel id _ ab;generalize ho:β id=o at dg aaM⊢;cases dg with
       | iM hb=>exact .iM hb
       | nest hb dm lM=>
        refine .nest hb (fun q b' e1 m1 hq=> ?_) lM;obtain ⟨ok,⟨Ca,Tc,c1,c0,c2,c3⟩,nI⟩:=dm q b' e1 m1 hq;refine ⟨ok,⟨Ca,Tc,c1,c0,c2,fun i j x t' y1 y2 y3=> ?_⟩,aaM _ (.row hb hq)⟩;obtain ⟨v,z1,z2⟩:=c3 i j x t' y1 y2 y3;exact ⟨v,z1,z2.mono i1 (fun _ _ _=>rfl) fun _ _ _ _ _=>rfl⟩
      | _=>cases hr
     | map t' es=>
      cases b with
      | map t=>
       obtain ⟨hc,qo⟩:=aH hr;clear hr;rw[ba] at hc;subst hc;refine fin (d1:=[.list t es]) (o1:=β id) qo (Ext.leaf h _) rfl bX (fun rest=>gb.map ab) fun rest I' μ hp0 i1 i2 ρ m eJ cX dI=> ?_;change fi P w I' μ hp0 (β id) (.map t es);have dg:=S.h.rel id _ ab;generalize ho:β id=o at dg dI⊢;cases dg with
       | map a1 a2 a3 a4 a5 a6 a7=>exact .map a1 a2 a3 a4 (dI _ (.root (by simp[jk]) a2)) a6 a7
      | _=>cases hr
   | row id ver path=>
    obtain ⟨e0,es,vers,l1,k1,k2,k3,k4,k5⟩:=ra hr;obtain ⟨e',vv,m1,m2,m3⟩:=BH k5;cases b with
    | arr e fz=>
     cases fz with
     | true=>cases m3
     | false=>
      obtain ⟨hc,m4⟩:=aH m3;clear m3;simp only[aK,ba,oA] at hc;obtain ⟨rfl,Fw,my⟩:=hc;have dg:=S.h.rel id _ k1;cases hb:β id with
      | none=>
       rw[hb] at dg;cases dg with
       | nest aA _ _=>cases aA
       | iM _=>
        cases path with
        | nil=>grind
        | cons p q=>obtain ⟨i,c⟩:=p;simp[kS] at m2
      | some b0=>
       rw[hb] at dg;cases dg with
       | iM aA=>cases aA
       | nest aA dm lM=>
        cases aA;obtain ⟨b1,fR⟩:=aaK dm path m1 m2 my;refine fin (d1:=[.list e vv.toList]) (o1:=some b1) m4 (Ext.leaf h _) rfl bX (fun rest=>gb.row k1 hb fR Fw k2 k3 k4 my) fun rest I' μ hp0 i1 i2 ρ m eJ cX dI=> ?_;change fi P w I' μ hp0 (some b1) (.arr e vv.toList false);obtain ⟨ok,⟨Ca,Tc,c1,c0,c2,c3⟩,nI⟩:=dm _ _ _ _ fR;refine .arr c0 ok rfl c1 c2 (fun h=>by cases h) (fun _=>dI _ (.root (by simp[jk]) rfl)) fun i j x t' y1 y2 y3=> ?_;obtain ⟨v,z1,z2⟩:=c3 i j x t' y1 y2 y3;refine ⟨v,z1,?_⟩;generalize cu P e x j=y at z2⊢;cases z2 with
        | gr _ p=>exact p.mono i1 fun _ _ _=>rfl
        | emp hu=>exact absurd hu (aaN Fw y2 _)
        | row hu _ _ _ _=>exact absurd hu (aaN Fw y2 _)
    | _=>cases m3
where
 aaN {e t:TypeId} {j:Nat} (h:Eo P e=true) (ht:(bc P e)[j]? =some t) (e':TypeId):P.underlying t≠some (.slice e'):=by
  intro hu;have h2:=gC.1 h t (mR ht);grind
end
section
variable {P:Program} {A:dH} {w w':World} {I I' I2:Nat→Nat→Prop} {μ β β' cT:Nat→Option Nat} {hp hp' hp0 bX:Nat→Option af} {C:ae} {B:Nat} {M:Nat→Prop} {w0:Start}
structure oO (w:World) (I:Nat→Nat→Prop) (β:Nat→Option Nat) (hp:Nat→Option af) (w':World) (I':Nat→Nat→Prop) (β':Nat→Option Nat) (hp':Nat→Option af):Prop where
 eN: ∀b j,I b j→I' b j
 cZ: ∀b j,I b j→w'.cell? ⟨b,j,none⟩=w.cell? ⟨b,j,none⟩
 blk: ∀id blk,hp id=some blk→∃blk',hp' id=some blk'∧blk.le blk'∧(blk'≠ .dead→β' id=β id)
 size: ∀id blk blk' b,hp id=some blk→hp' id=some blk'→blk'≠ .dead→β id=some b→bsize w' b=bsize w b
theorem Le.B4 (h:Le P w I β hp w' I' β' hp'):oO w I β hp w' I' β' hp':=⟨h.eN,h.cZ,h.blk,h.size⟩
theorem oO.trans {EF:World} {EG:Nat→Nat→Prop} {EH:Nat→Option Nat} {EI:Nat→Option af} (h1:oO w I β hp w' I' β' hp') (h2:oO w' I' β' hp' EF EG EH EI):oO w I β hp EF EG EH EI:=by
 refine ⟨fun b j h=>h2.eN b j (h1.eN b j h),fun b j h=>(h2.cZ b j (h1.eN b j h)).trans (h1.cZ b j h),fun id blk h=> ?_,fun id blk yZ b h KZ hd hb=> ?_⟩
 ·obtain ⟨blk',e',l',b'⟩:=h1.blk id blk h;obtain ⟨yZ,eM,EJ,b''⟩:=h2.blk id blk' e';refine ⟨yZ,eM,af.le_trans l' EJ,fun hd=> ?_⟩;have fP:blk'≠ .dead:=fun e=>hd (af.tI (e▸EJ));grind
 ·obtain ⟨blk',e',l',b'⟩:=h1.blk id blk h;obtain ⟨kA,e3,l3,b3⟩:=h2.blk id blk' e';obtain rfl:kA=yZ:=by grind
  have fP:blk'≠ .dead:=fun e=>hd (af.tI (e▸l3));rw[h2.size id blk' kA b e' e3 hd ((b' fP).trans hb),h1.size id blk blk' b h e' fP hb]
def sO (P:Program) (w:World) (μ:Nat→Option Nat) (hp0:Nat→Option af) (b:Nat):Prop:= ∃j blk,hp0 j=some blk∧bB P w (μ j) blk b
structure alB (P:Program) (A:dH) (key:Nat) (w:World) (I:Nat→Nat→Prop) (μ:Nat→Option Nat) (ds es:List V) (w':World) (v:Value) (I2:Nat→Nat→Prop) (cT:Nat→Option Nat):Prop where
 B5:aB P w' I2 cT (bZ (A.so key es) (A.lv key es)).hp w.heap.size (sO P w μ (bZ (A.sin key) ds).hp) ⟨w,I⟩
 le:oO w I μ (bZ (A.sin key) ds).hp w' I2 cT (bZ (A.so key es) (A.lv key es)).hp
 res:ai P w' I2 cT (bZ (A.so key es) (A.lv key es)).hp v (tF (iL (A.so key es).cC (A.lv key es)))
def oP (P:Program) (A:dH) (C:ae):Prop:=
 ∀key ds es,C key ds=some es→∃fn c,P.funcs[A.jI key]? =some fn∧fn.body=some c∧
  ∀(w:World) (I:Nat→Nat→Prop) (μ:Nat→Option Nat) (vals:List Value),
   yX P w I μ (bZ (A.sin key) ds).hp w.heap.size (sO P w μ (bZ (A.sin key) ds).hp)→jL P A.aL w I→
   vals.length=(A.sin key).cC.length→(∀(j:Nat) v x,vals[j]? =some v→(ji ((A.sin key).cC.map (·.2)) ds)[j]? =some x→ai P w I μ (bZ (A.sin key) ds).hp v x)→
   Calls P (A.jI key) vals.toArray w fun e w'=> ∃v I2 cT,e= .returned v∧alB P A key w I μ ds es w' v I2 cT
theorem gb.zy {p:Place} {o:Option Nat} {blk:af} {b:Nat} (h:gb P w β hp p o blk) (ho:bB P w o blk b):
  ∃vG,hp p.id=some vG∧bB P w (β p.id) vG b∧∀e es,vG≠ .arr e es true:=by
 cases h with
 | var h=>exact ⟨_,h,.root (by simp) (ho.flat (by simp)),by simp⟩
 | arr h=>exact ⟨_,h,.root (by simp) (ho.flat (by simp)),by simp⟩
 | map h=>exact ⟨_,h,.root (by simp) (ho.flat (by simp)),by simp⟩
 | nest h=>
  refine ⟨_,h,?_,by simp⟩;cases ho with
  | root _ hb=>exact .root (by simp) hb
  | row hb ha=>exact .row hb ha
 | row h hb ha _ _ _ _ _=>
  have:=ho.flat (by simp)
  cases this;exact ⟨_,h,.row hb ha,by simp⟩
theorem aB.alC (S:aB P w I β hp B M w0) {id b:Nat} {blk:af} (ab:hp id=some blk) (ho:bB P w (β id) blk b) (hf: ∀e es,blk≠ .arr e es true): ∀j,¬I b j:=by
 have hr:=S.h.rel id blk ab;generalize β id=o at hr ho;cases hr with
 | var hb _ _ hI _ _=>have:=ho.flat (by simp);grind
 | eZ hb=>have:=ho.flat (by simp);grind
 | @arr e _ es fz _ _ _ _ hb _ _ _ fQ _=>
  have:=ho.flat (by simp)
  simp_all
 | dead=>exact absurd rfl ho.alive
 | map _ hb _ _ hI _ _=>have:=ho.flat (by simp);grind
 | out hb _ _ hh _ _ hI hc hr _=>
  cases ho with
  | root _ aA=>grind
  | qg aA y7 hj hx h0 hv=>
   rw[hb] at aA;cases aA;rw[hh] at y7;cases y7;obtain ⟨_,_,m1,_⟩:=hc _ _ hj hx;cases m1;exact (hr _ _ _ _ hj hx h0 hv).2.nI
 | iM hb=>cases ho<;>simp_all
 | nest hb hr _=>
  cases ho with
  | root _ aA=>rw[hb] at aA;cases aA;exact (hr _ _ _ _ .here).nI
  | row aA ha=>rw[hb] at aA;cases aA;exact (hr _ _ _ _ ha).nI
theorem LR {a b:List Nat} (h:Bt a b=false) {x:Nat} (ha:x∈a):x∉b:=by
 intro hb;unfold Bt at h;rw[List.any_eq_false] at h;exact h x ha (BM hb)
theorem alD (S:aB P w I β hp B M w0) {pl:List Place} {upd:List (Nat×af)} {o:Nat→Option Nat} (n0:(pl.map Place.id).Nodup) (pr:Bt (upd.map (·.1)) (pl.map Place.id)=false)
  (hl: ∀j blk,hp0 j=some blk→∃p,gm pl j=some p∧gb P w β hp p (o j) blk)
  (dg:(∀j blk,hp0 j=some blk→∀b,bB P w (o j) blk b→∀j,¬lN P w I β hp upd b j)→∀j blk,hp0 j=some blk→fi P w (lN P w I β hp upd) o hp0 (o j) blk) (bf: ∀b j,lN P w I β hp upd b j→b<w.heap.size):
  yX P w (lN P w I β hp upd) o hp0 w.heap.size (sO P w o hp0):=by
 have dI: ∀j blk,hp0 j=some blk→∀b,bB P w (o j) blk b→∀j,¬lN P w I β hp upd b j:=by
  intro j blk hj b ho jj hI;obtain ⟨p,bX,ga⟩:=hl j blk hj;obtain ⟨vG,k1,k2,k3⟩:=ga.zy ho;rcases hI with hI|⟨q,hq,cL,q1,q2⟩
  ·exact S.alC k1 k2 k3 jj hI
  ·have:=S.h.inj _ _ _ _ b q1 k1 q2.own k2;refine LR pr (j5.2 ⟨q,hq,rfl⟩) ?_;rw[this];rw[po] at bX;grind
 refine ⟨dg dI,fun j1 j2 b1 b2 b h1 h2 o1 o2=> ?_,fun j blk b h1 o1=> .inl ⟨j,blk,h1,o1⟩,bf⟩;obtain ⟨p1,q1,q2⟩:=hl j1 b1 h1;obtain ⟨p2,r1,r2⟩:=hl j2 b2 h2;obtain ⟨c1,x1,x2,_⟩:=q2.zy o1;obtain ⟨c2,y1,y2,_⟩:=r2.zy o2;have ab:=S.h.inj _ _ _ _ b x1 y1 x2 y2;rw[po] at q1 r1;have m1:(pl.map Place.id)[j1]? =some p1.id:=by grind
 have m2:(pl.map Place.id)[j2]? =some p2.id:=by grind
 rw[←ab] at m2;obtain ⟨z1,z2⟩:=cO.1 m1;obtain ⟨z3,z4⟩:=cO.1 m2;exact (List.getElem_inj n0).1 (z2.trans z4.symm)
def aaO:V→Prop
 | .list .. =>False
 | .pref .. =>False
 | .agg _=>False
 | .bK _=>False
 | .fn .. =>False
 | _=>True
theorem ai.free {v:Value} {x:V} (h:ai P w I β hp v x) (hx:aaO x):ai P w I' β hp v x:=by
 cases h with
 | undef=>exact .undef
 | int=>exact .int
 | bool=>exact .bool
 | str h=>exact .str h
 | list h=>exact hx.elim
 | nilS=>exact .nilS
 | agg=>exact hx.elim
 | bK=>exact hx.elim
 | fg=>exact .fg
 | fn=>exact hx.elim
 | pref=>exact hx.elim
 | eC h=>exact .eC h
 | jJ h=>exact .jJ h
 | mr h=>exact .mr h
 | ej h hb=>exact .ej h hb
 | whole h hb a b c=>exact .whole h hb a b c
 | ee h hb a b c=>exact .ee h hb a b c
 | eF h hb=>exact .eF h hb
 | fC h hb a b c=>exact .fC h hb a b c
 | jo h hb=>exact .jo h hb
 | sub h hb a b c=>exact .sub h hb a b c
 | ptr h hd hb=>exact .ptr h hd hb
 | mu h vA=>exact .mu h vA
 | mw h vA=>exact .mw h vA
 | row h hb a b c d=>exact .row h hb a b c d
 | dS h hb a b c d e=>exact .dS h hb a b c d e
 | eY=>exact .eY
 | kX h=>exact .kX h
 | cD h hb=>exact .cD h hb
theorem Fx {l:LS} {ds:List V} (hs:l.safe=true):aaO (kT l ds):=by
 cases l<;>simp only[LS.safe] at hs<;>first|(cases hs;done)|trivial
theorem Fy: ∀{ls:List LS} {ds:List V} {j:Nat} {y:V},(iK ls ds)[j]? =some y→∃l kh,l∈ls∧y=kT l kh
 | [],ds,j,y,h=>by simp[iK] at h
 | l::ls,ds,j,y,h=>by
  simp only[iK] at h;cases j with
  | zero=>grind
  | succ j=>
   obtain ⟨l',kh,h1,h2⟩:=Fy (j:=j) (by simpa using h);grind
theorem aaP: ∀{ls:List VS} {ds:List V} {j:Nat} {y:V},(ji ls ds)[j]? =some y→∃l kh,l∈ls∧y=nO l kh
 | [],ds,j,y,h=>by simp[ji] at h
 | l::ls,ds,j,y,h=>by
  simp only[ji] at h;cases j with
  | zero=>grind
  | succ j=>
   obtain ⟨l',kh,h1,h2⟩:=aaP (j:=j) (by simpa using h);grind
theorem aaQ {s:VS} {ds:List V} {v:Value} (h:ai P w I β hp v (nO s ds)) (hs:s.safe=true):ai P w I' β hp v (nO s ds):=by
 cases s with
 | one l=>exact h.free (Fx hs)
 | agg ls=>
  simp only[nO] at h⊢;obtain ⟨cs,rfl,e1,e2⟩:=h.nT;refine .agg e1 fun j v x hj hx=> ?_;obtain ⟨l,kh,k1,rfl⟩:=Fy hx;exact (e2 j v _ hj hx).free (Fx (gC.1 hs l k1))
 | bK ls=>
  simp only[nO] at h⊢;obtain ⟨cs,rfl,e1,e2⟩:=h.zb;refine .bK e1 fun j v x hj hx=> ?_;obtain ⟨l,kh,k1,rfl⟩:=Fy hx;exact (e2 j v _ hj hx).free (Fx (gC.1 hs l k1))
 | fn f a b=>
  simp only[VS.safe,aK] at hs;simp only[nO] at h⊢;cases h with
  | fn a1 a2 b1 b2=>
   refine .fn a1 (fun j v x hj hx=> ?_) b1 (fun j v x hj hx=> ?_)
   ·obtain ⟨l,kh,k1,rfl⟩:=Fy hx;exact (a2 j v _ hj hx).free (Fx (gC.1 hs.1 l k1))
   ·obtain ⟨l,kh,k1,rfl⟩:=Fy hx;exact (b2 j v _ hj hx).free (Fx (gC.1 hs.2 l k1))
 | pref ts ls=>cases hs
theorem Pure.scalar {t:TypeId} {v:Value} {x:V} (h:Pure P w I t v x) (hn: ∀e,P.underlying t≠some (.slice e)):Pure P w I' t v x:=by
 cases h with
 | int h=>exact .int h
 | bool h=>exact .bool h
 | str h hl=>exact .str h hl
 | nil h=>grind
 | emp h=>grind
 | list g h=>grind
theorem alE {e t:TypeId} {j:Nat} (h:Eo P e=true) (ht:(bc P e)[j]? =some t) (e':TypeId):P.underlying t≠some (.slice e'):=by
 intro hu;have h2:=gC.1 h t (mR ht);grind
theorem alF {o:Option Nat} {b:BS} {ds:List V} (h:fi P w I2 β hp o (jk b ds)) (hs:b.safe P=true) (hi: ∀b j,I b j→I2 b j):fi P w I β hp o (jk b ds):=by
 cases b with
 | dead=>exact .dead
 | var T0 ls=>
  simp only[jk] at h⊢;cases h with
  | var hb hh bw hI hx iY=>
   refine .var hb hh bw (fun j h=>hI j (hi _ j h)) (fun j v x hj dy=> ?_) iY;obtain ⟨l,kh,k1,rfl⟩:=aaP dy;exact aaQ (hx j v _ hj dy) (gC.1 hs l k1)
 | arr e fz=>
  simp only[BS.safe,aK,nF] at hs;obtain ⟨rfl,Fw⟩:=hs;simp only[jk] at h⊢;generalize (V.nth ds 0).toList=es at h⊢;cases h with
  | eZ hb=>exact .eZ hb
  | arr a0 a1 a2 a3 a4 a5 a6 a7=>
   refine .arr a0 a1 a2 a3 a4 (fun h=>by cases h) (fun _ j h=>a6 rfl j (hi _ j h)) fun i j x t' y1 y2 y3=> ?_;obtain ⟨v,z1,z2⟩:=a7 i j x t' y1 y2 y3;exact ⟨v,z1,z2.scalar (alE Fw y2)⟩
 | nest e=>
  simp only[jk] at h⊢;generalize (V.nth ds 0).toList=es at h⊢;cases h with
  | iM hb=>exact .iM hb
  | nest hb dm lM=>
   refine .nest hb (fun q b' e1 m1 hq=> ?_) lM;obtain ⟨ok,⟨Ca,Tc,c1,c0,c2,c3⟩,nI⟩:=dm q b' e1 m1 hq;refine ⟨ok,⟨Ca,Tc,c1,c0,c2,fun i j x t' y1 y2 y3=> ?_⟩,fun j h=>nI j (hi _ j h)⟩;obtain ⟨v,z1,z2⟩:=c3 i j x t' y1 y2 y3;refine ⟨v,z1,?_⟩;generalize cu P e1 x j=y at z2⊢;cases z2 with
   | gr a p=>
    refine .gr a (p.scalar fun e hu=> ?_);unfold ey at a;grind
   | emp a=>exact .emp a
   | row a b c d e=>exact .row a b c d e
 | map t=>
  simp only[jk] at h⊢;cases h with
  | map a1 a2 a3 a4 a5 a6 a7=>exact .map a1 a2 a3 a4 (fun j h=>a5 j (hi _ j h)) a6 a7
theorem LU: ∀{l:List BS} {ds:List V} {j:Nat} {y:af},(gQ l ds)[j]? =some y→∃b kh,l[j]? =some b∧y=jk b kh
 | [],ds,j,y,h=>by simp[gQ] at h
 | b::l,ds,j,y,h=>by
  simp only[gQ] at h;cases j with
  | zero=>grind
  | succ j=>
   obtain ⟨b',kh,h1,h2⟩:=LU (j:=j) (by simpa using h);grind
theorem aaR: ∀{l:List (Nat×VS)} {ds:List V} {q:Nat×V},q∈iL l ds→∃s kh,(q.1,s)∈l∧q.2=nO s kh
 | [],ds,q,h=>by simp[iL] at h
 | (k,s)::l,ds,q,h=>by
  simp only[iL,iR] at h;rcases h with h|h
  ·grind
  ·obtain ⟨s',kh,h1,h2⟩:=aaR h;grind
theorem alG {S:Shape} {es:List V} (hs:S.safe P=true) (hi: ∀b j,I b j→I2 b j) {N:Nat→Prop} {st:Start} (h:aB P w' I2 cT (bZ S es).hp B N st) (h0: ∀b j,I b j→st.I b j):
  aB P w' I cT (bZ S es).hp B N st∧∀v,ai P w' I2 cT (bZ S es).hp v (tF (iL S.cC es))→ai P w' I cT (bZ S es).hp v (tF (iL S.cC es)):=by
 unfold Shape.safe at hs;simp only[aK] at hs;obtain ⟨kZ,kF⟩:=hs;have one: ∀q∈iL S.cC es,∀v,ai P w' I2 cT (bZ S es).hp v q.2→ai P w' I cT (bZ S es).hp v q.2:=by
  intro q hq v hv;obtain ⟨s,kh,k1,k2⟩:=aaR hq;rw[k2] at hv⊢;exact aaQ hv (gC.1 kZ _ k1)
 refine ⟨⟨⟨fun j blk hj=> ?_,h.h.inj,h.h.own,fun b j hb=>h.h.jK b j (hi b j hb)⟩,h.cZ,h.size,fun b j hb=> .inl (h0 b j hb),h.io⟩,fun v hv=> ?_⟩
 ·have hr:=h.h.rel j blk hj;have jM:=hj;simp only[bZ,mk,kG] at jM;obtain ⟨b,kh,k1,rfl⟩:=LU jM;exact alF hr (gC.1 kF _ (mR k1)) hi
 ·generalize iL S.cC es=l at one hv⊢
  match l,one,hv with
  | [],_,hv=>
   simp only[tF,List.map_nil] at hv⊢;obtain ⟨cs,rfl,e1,e2⟩:=hv.zb;exact .bK e1 fun j v x _ hx=>by simp at hx
  | [q],one,hv=>exact one q (jF.2 rfl) v hv
  | q::q2::l,one,hv=>
   simp only[tF] at hv⊢;obtain ⟨cs,rfl,e1,e2⟩:=hv.zb;refine .bK e1 fun j v x hj hx=> ?_;grind
end
section
variable {P:Program} {A:dH} {w w':World} {I I' I2:Nat→Nat→Prop} {μ β β' cT:Nat→Option Nat} {hp hp' hp0 bX:Nat→Option af} {C:ae} {B:Nat} {M:Nat→Prop} {w0:Start}
inductive jx (σ:List Place):af→af→Prop
 | dead:jx σ .dead .dead
 | var {T:TypeId} {cs:List V}:jx σ (.var T cs) (.var T (cs.map (KO σ)))
 | arr {e:TypeId} {es:List V} {fz:Bool}:jx σ (.arr e es fz) (.arr e es fz)
 | nest {e:TypeId} {es:List V} {v1 v2:List Nat}:jx σ (.nest e es v1) (.nest e es v2)
 | map {t:TypeId} {es:List V}:jx σ (.map t es) (.map t es)
 | out {e:TypeId} {es:List V} {vs:List Nat} {i:Nat}:jx σ (.out e es vs i) .dead
theorem jx.of (σ:List Place) (b:af):jx σ b (yT σ b):=by
 cases b with
 | dead=>exact .dead
 | var T cs=>exact .var
 | arr e es fz=>exact .arr
 | nest e es v=>exact .nest
 | map t es=>exact .map
 | out e es vs i=>exact .out
theorem aaS {σ:List Place}: ∀{pl:List Place} {bs:List af} {acc:List (Nat×af)} {k:List (Nat×af)→Rd R} {r:R} {rd:List Nat},(ve σ pl bs acc k).run C hp=some (r,rd)→
  pl.length≤bs.length∧∃bk gJ,(k bk).run C hp=some (r,gJ)∧(∀q∈bk,q∈acc∨∃(j:Nat) (b:af),pl[j]? =some (.blk q.1)∧bs[j]? =some b∧jx σ b q.2∧((∃e es v2,q.2= .nest e es v2)→∃e es vers e' aQ,hp q.1=some (.nest e es vers)∧q.2= .nest e' aQ (vers.map (· +1))))∧
   (∀q∈acc,q∈bk)∧∀(j:Nat) p,pl[j]? =some p→∃id b,p= .blk id∧(id,b)∈bk
 | [],bs,acc,k,r,rd,h=>⟨nH _,acc,rd,by simpa only[ve] using h,fun q hq=> .inl hq,fun q hq=>hq,fun j p hp=>by simp at hp⟩
 | .row _ _ _::pl,bs,acc,k,r,rd,h=>by
  cases bs<;>(simp only[ve] at h;cases h)
 | .blk id::pl,[],acc,k,r,rd,h=>by simp only[ve] at h;cases h
 | .blk id::pl,b::bs,acc,k,r,rd,h=>by
  have fin: ∀{b2:af} {jw:List Nat},(ve σ pl bs ((id,b2)::acc) k).run C hp=some (r,jw)→jx σ b b2→((∃e es v2,b2= .nest e es v2)→∃e es vers e' aQ,hp id=some (.nest e es vers)∧b2= .nest e' aQ (vers.map (· +1)))→
    (Place.blk id::pl).length≤(b::bs).length∧∃bk gJ,(k bk).run C hp=some (r,gJ)∧(∀q∈bk,q∈acc∨∃(j:Nat) (b':af),(Place.blk id::pl)[j]? =some (.blk q.1)∧(b::bs)[j]? =some b'∧jx σ b' q.2∧((∃e es v2,q.2= .nest e es v2)→∃e es vers e' aQ,hp q.1=some (.nest e es vers)∧q.2= .nest e' aQ (vers.map (· +1))))∧
     (∀q∈acc,q∈bk)∧∀(j:Nat) p,(Place.blk id::pl)[j]? =some p→∃id b,p= .blk id∧(id,b)∈bk:=by
   intro b2 jw h1 hb hn;obtain ⟨a0,bk,gJ,a1,a2,a3,a4⟩:=aaS h1;refine ⟨by simp only[List.length_cons];omega,bk,gJ,a1,fun q hq=> ?_,fun q hq=>a3 q (qP _ hq),fun j p hj=> ?_⟩
   ·rcases a2 q hq with h|⟨j,b',k1,k2,k3,k4⟩
    ·rcases iR.1 h with e|h
     ·subst e;exact .inr ⟨0,b,rfl,rfl,hb,hn⟩
     ·exact .inl h
    ·exact .inr ⟨j+1,b',by simpa using k1,by simpa using k2,k3,k4⟩
   ·cases j with
    | zero=>simp at hj;subst hj;exact ⟨id,b2,rfl,a3 _ (Bh ..)⟩
    | succ j=>exact a4 j p (by simpa using hj)
  cases b with
  | nest e es v=>
   simp only[ve] at h;obtain ⟨l,h⟩:=run_get h;cases ab:hp id with
   | none=>rw[ab] at h;cases h
   | some blk=>
    rw[ab] at h;cases blk with
    | nest e0 RN vers=>exact fin h .nest fun _=>⟨e0,RN,vers,e,es,ab,rfl⟩
    | _=>cases h
  | dead=>exact fin h (.of σ _) fun ⟨_,_,_,h⟩=>by cases h
  | var T cs=>exact fin h (.of σ _) fun ⟨_,_,_,h⟩=>by cases h
  | arr e es fz=>exact fin h (.of σ _) fun ⟨_,_,_,h⟩=>by cases h
  | map t es=>exact fin h (.of σ _) fun ⟨_,_,_,h⟩=>by cases h
  | out e es vs i=>exact fin h (.of σ _) fun ⟨_,_,_,h⟩=>by cases h
theorem aaT {σ:List Place}: ∀{bs:List af} {n:Nat} {q:Nat×af},q∈vf σ n bs→∃i b,bs[i]? =some b∧q=(n+i,yT σ b)
 | [],n,q,h=>by simp[vf] at h
 | b::bs,n,q,h=>by
  simp only[vf,iR] at h;rcases h with h|h
  ·exact ⟨0,b,rfl,h⟩
  ·obtain ⟨i,b',h1,h2⟩:=aaT h;exact ⟨i+1,b',by simpa using h1,by rw[h2];congr 1;omega⟩
theorem aaU {σ:List Place}: ∀{bs:List af} {n i:Nat} {b:af},bs[i]? =some b→(n+i,yT σ b)∈vf σ n bs
 | [],n,i,b,h=>by simp at h
 | b0::bs,n,i,b,h=>by
  simp only[vf,iR];cases i with
  | zero=>simp at h;subst h;exact .inl rfl
  | succ i=>exact .inr (by rw[show n+(i+1)=n+1+i by omega];exact aaU (by simpa using h))
theorem LW: ∀{k n i:Nat},i<k→(w5 n k)[i]? =some (.blk (n+i))
 | 0,n,i,h=>by omega
 | k+1,n,0,h=>rfl
 | k+1,n,i+1,h=>by
  simp only[w5,List.getElem?_cons_succ];rw[LW (by omega)];congr 2;omega
theorem RO: ∀{k n:Nat},(w5 n k).length=k
 | 0,_=>rfl
 | k+1,n=>by simp[w5,RO]
theorem aaV: ∀{bs:List (Nat×af)} {k:Rd R} {r:R} {rd:List Nat},(KP bs k).run C hp=some (r,rd)→(∀q∈bs,hp q.1=none)∧∃gJ,k.run C hp=some (r,gJ)
 | [],k,r,rd,h=>⟨by simp,rd,h⟩
 | (id,b)::l,k,r,rd,h=>by
  simp only[KP] at h;obtain ⟨l1,h⟩:=run_get h;cases ab:hp id with
  | some blk=>rw[ab] at h;cases h
  | none=>
   rw[ab] at h;obtain ⟨h1,h2⟩:=aaV h;refine ⟨fun q hq=> ?_,h2⟩;rcases iR.1 hq with e|hq
   ·subst e;exact ab
   ·exact h1 q hq
structure ud (σ:List Place) (cT:Nat→Option Nat) (bX:Nat→Option af) (β':Nat→Option Nat) (hp':Nat→Option af):Prop where
 blk: ∀j b,bX j=some b→∃id b',gm σ j=some (.blk id)∧hp' id=some b'∧jx σ b b'∧(b≠ .dead→β' id=cT j)
 none: ∀j,bX j=none→gm σ j=none
 ayZ: ∀j id ver path,gm σ j≠some (.row id ver path)
theorem ud.leaf {σ:List Place} (T:ud σ cT bX β' hp') {v:Value} {x:V} (h:ai P w I cT bX v x):ai P w I β' hp' v (mo σ x):=by
 have look: ∀{j b},bX j=some b→∃id b',gm σ j=some (.blk id)∧hp' id=some b'∧jx σ b b'∧(b≠ .dead→β' id=cT j):=fun h=>T.blk _ _ h;cases h with
 | undef=>exact .undef
 | int=>exact .int
 | bool=>exact .bool
 | str h=>exact .str h
 | list h=>exact .list h
 | nilS=>exact .nilS
 | agg=>exact .undef
 | bK=>exact .undef
 | fg=>exact .fg
 | fn=>exact .undef
 | pref a b c=>exact .pref a b c
 | @eC _ e j h=>
  obtain ⟨id,b',k1,k2,k3,k4⟩:=look h;simp only[mo,k1];cases k3;exact .eC k2
 | @jJ _ e j _ _ h=>
  obtain ⟨id,b',k1,k2,k3,k4⟩:=look h;simp only[mo,k1];cases k3;exact .jJ k2
 | @mr _ j _ _ h=>
  obtain ⟨id,b',k1,k2,k3,k4⟩:=look h;simp only[mo,k1];cases k3;exact .mr k2
 | @ej e j fz _ h hb=>
  obtain ⟨id,b',k1,k2,k3,k4⟩:=look h;simp only[mo,k1];cases k3;exact .ej k2 ((k4 (by simp)).trans hb)
 | @whole e j es fz b cap h hb a1 a2 a3=>
  obtain ⟨id,b',k1,k2,k3,k4⟩:=look h;simp only[mo,k1];cases k3;exact .whole k2 ((k4 (by simp)).trans hb) a1 a2 a3
 | @ee e j es vers b cap h hb a1 a2 a3=>
  obtain ⟨id,b',k1,k2,k3,k4⟩:=look h;simp only[mo,k1];cases k3;exact .ee k2 ((k4 (by simp)).trans hb) a1 a2 a3
 | @fC e j i es vers b cap h hb a1 a2 a3=>
  obtain ⟨id,b',k1,k2,k3,k4⟩:=look h;simp only[mo,k1];cases k3;exact .eC k2
 | @eF e j vers _ h hb=>
  obtain ⟨id,b',k1,k2,k3,k4⟩:=look h;simp only[mo,k1];cases k3;exact .eF k2 ((k4 (by simp)).trans hb)
 | @jo e j fz _ h hb=>
  obtain ⟨id,b',k1,k2,k3,k4⟩:=look h;simp only[mo,k1];cases k3;exact .jo k2 ((k4 (by simp)).trans hb)
 | @sub e j off len es fz b o cap h hb a1 a2 a3=>
  obtain ⟨id,b',k1,k2,k3,k4⟩:=look h;simp only[mo,k1];cases k3;exact .sub k2 ((k4 (by simp)).trans hb) a1 a2 a3
 | @ptr j i c b blk h hd hb=>
  obtain ⟨id,b',k1,k2,k3,k4⟩:=look h;simp only[mo,k1];by_cases fP:b'= .dead
  ·subst fP;exact .mr k2
  have hs:blk.sz P=b'.sz P:=by cases k3<;>first|rfl|exact absurd rfl fP
  rw[hs];exact .ptr k2 fP ((k4 hd).trans hb)
 | mu=>exact .undef
 | mw=>exact .undef
 | row=>exact .undef
 | dS=>exact .undef
 | eY=>exact .eY
 | @kX _ t j h=>
  obtain ⟨id,b',k1,k2,k3,k4⟩:=look h;simp only[mo,k1];cases k3;exact .kX k2
 | @cD t j b es h hb=>
  obtain ⟨id,b',k1,k2,k3,k4⟩:=look h;simp only[mo,k1];cases k3;exact .cD k2 ((k4 (by simp)).trans hb)
theorem ud.one {σ:List Place} (T:ud σ cT bX β' hp') {v:Value} {x:V} (h:ai P w I cT bX v x):ai P w I β' hp' v (Qo σ x):=by
 cases x with
 | agg xs=>
  obtain ⟨cs,rfl,e1,e2⟩:=h.nT;exact .agg (by simpa using e1) fun j v y hj hy=>by
   rw[gD] at hy;cases hx:xs[j]? with
   | none=>rw[hx] at hy;cases hy
   | some x=>rw[hx] at hy;cases hy;exact T.leaf (e2 j v x hj hx)
 | fn f a b=>
  cases h with
  | fn a1 a2 b1 b2=>
   refine .fn (by simpa using a1) (fun j v y hj hy=> ?_) (by simpa using b1) (fun j v y hj hy=> ?_)
   ·rw[gD] at hy;cases hx:a[j]? with
    | none=>rw[hx] at hy;cases hy
    | some x=>rw[hx] at hy;cases hy;exact T.leaf (a2 j v x hj hx)
   ·rw[gD] at hy;cases hx:b[j]? with
    | none=>rw[hx] at hy;cases hy
    | some x=>rw[hx] at hy;cases hy;exact T.leaf (b2 j v x hj hx)
 | _=>exact T.leaf h
theorem ud.val {σ:List Place} (T:ud σ cT bX β' hp') {v:Value} {x:V} (h:ai P w I cT bX v x):ai P w I β' hp' v (KO σ x):=by
 cases x with
 | bK xs=>
  obtain ⟨cs,rfl,e1,e2⟩:=h.zb;exact .bK (by simpa using e1) fun j v y hj hy=>by
   rw[gD] at hy;cases hx:xs[j]? with
   | none=>rw[hx] at hy;cases hy
   | some x=>rw[hx] at hy;cases hy;exact T.one (e2 j v x hj hx)
 | _=>exact T.one h
theorem ud.aaW {σ:List Place} (T:ud σ cT bX β' hp') {o:Option Nat} {b b':af} (h:fi P w I cT bX o b) (hb:jx σ b b'):fi P w I β' hp' o b':=by
 cases hb with
 | dead=>exact .dead
 | var=>
  cases h with
  | var a1 a2 a3 a4 a5 a6=>
   refine .var a1 a2 (by simpa using a3) a4 (fun j v y hj hy=> ?_) a6;rw[gD] at hy;cases hx:(_:List V)[j]? with
   | none=>rw[hx] at hy;cases hy
   | some x=>rw[hx] at hy;cases hy;exact T.val (a5 j v x hj hx)
 | arr=>
  cases h with
  | eZ hb=>exact .eZ hb
  | arr a0 a1 a2 a3 a4 a5 a6 a7=>exact .arr a0 a1 a2 a3 a4 a5 a6 a7
 | nest=>
  cases h with
  | nest a1 a2 a3=>exact .nest a1 a2 a3
  | iM a1=>exact .iM a1
 | map=>
  cases h with
  | map a1 a2 a3 a4 a5 a6 a7=>exact .map a1 a2 a3 a4 a5 a6 a7
 | out=>exact .dead
theorem jx.zy {σ:List Place} {o:Option Nat} {b b':af} (h:jx σ b b') {m:Nat} (ho:bB P w o b' m):bB P w o b m:=by
 cases h with
 | dead=>exact absurd rfl ho.alive
 | var=>exact .root (by simp) (ho.flat (by simp))
 | arr=>exact .root (by simp) (ho.flat (by simp))
 | map=>exact .root (by simp) (ho.flat (by simp))
 | out=>exact absurd rfl ho.alive
 | nest=>
  cases ho with
  | root _ hb=>exact .root (by simp) hb
  | row hb ha=>exact .row hb ha
theorem jx.aaX {σ:List Place} {b b':af} (h:jx σ b b'):b'≠ .dead→b≠ .dead:=by
 intro h1 h2;subst h2;cases h;exact h1 rfl
end
section
variable {P:Program} {A:dH} {w w':World} {I I' I2:Nat→Nat→Prop} {μ β β' cT:Nat→Option Nat} {hp hp' hp0 bX:Nat→Option af} {C:ae} {B:Nat} {M:Nat→Prop} {w0:Start}
theorem aaY: ∀{vs:List Nat} {k:Nat},k<vs.length→bM (vs.map (· +1)) k=bM vs k+1
 | [],k,h=>by simp at h
 | v::vs,0,h=>rfl
 | v::vs,k+1,h=>by simp only[iS,bM];exact aaY (by grind)
theorem aaZ: ∀{vs:List Nat} {k:Nat},bM vs k≤bM (vs.map (· +1)) k
 | [],k=>by grind
 | v::vs,0=>by simp[bM]
 | v::vs,k+1=>by simp only[iS,bM];exact aaZ
def Fz (hp:Nat→Option af) (q:Nat×af):Prop:=(∃e es v2,q.2= .nest e es v2)→∃e es vers e' aQ,hp q.1=some (.nest e es vers)∧q.2= .nest e' aQ (vers.map (· +1))
theorem gb.RP {id:Nat} {o:Option Nat} {blk:af} (h:gb P w β hp (.blk id) o blk):o=β id∧∃b0,hp id=some b0∧b0≠ .dead:=by
 cases h with
 | var h=>grind
 | arr h=>grind
 | nest h=>grind
 | map h=>grind
theorem gb.alH {id:Nat} {o:Option Nat} {c b b' b0:af} {σ:List Place} (h:gb P w β hp (.blk id) o c) (h0:hp id=some b0) (hle:c.le b) (hb:jx σ b b') (hn:Fz hp (id,b')):b0.le b':=by
 cases h with
 | var h=>
  rw[h] at h0;cases h0;cases hb with
  | dead=>trivial
  | out=>trivial
  | var=>trivial
  | arr=>exact hle.elim
  | nest=>exact hle.elim
  | map=>exact hle.elim
 | arr h=>
  rw[h] at h0;cases h0;cases hb with
  | dead=>trivial
  | out=>trivial
  | var=>exact hle.elim
  | arr=>exact hle
  | nest=>exact hle.elim
  | map=>omega
 | map h=>
  rw[h] at h0;cases h0;cases hb with
  | dead=>trivial
  | out=>trivial
  | map=>exact hle
  | _=>exact hle.elim
 | nest h=>
  rw[h] at h0;cases h0;cases hb with
  | dead=>trivial
  | out=>trivial
  | var=>exact hle.elim
  | arr=>exact hle
  | map=>exact hle.elim
  | @nest e es v1 v2=>
   obtain ⟨e1,dD,xh,e2,cb,k1,k2⟩:=hn ⟨_,_,_,rfl⟩;cases k2;change hp id=_ at k1;rw[h] at k1;cases k1;exact ⟨hle.1,hle.2.1,by simp,fun k=>aaZ⟩
theorem gb.other {p:Place} {o:Option Nat} {blk:af} (h:gb P w β hp p o blk) (he:hp' p.id=hp p.id):gb P w β hp' p o blk:=by
 cases h with
 | var h=>exact .var (he.trans h)
 | arr h=>exact .arr (he.trans h)
 | nest h=>exact .nest (he.trans h)
 | map h=>exact .map (he.trans h)
 | row h a b c d e f g=>exact .row (he.trans h) a b c d e f g
open Classical in
theorem aa0 (S:aB P w I β hp B M w0) {pl:List Place} {o:Nat→Option Nat} {bs:List af} {nb:Nat} {bk fr:List (Nat×af)} {σ:List Place} (vH:σ=pl++w5 nb (bs.length-pl.length)) (FA:fr=vf σ nb (bs.drop pl.length))
  (n0:(pl.map Place.id).Nodup) (sy:pl.length≤bs.length)
  (LX: ∀(j:Nat) p,pl[j]? =some p→∃id b,p= .blk id∧(id,b)∈bk) (LY: ∀q∈bk,∃(j:Nat) (b:af),pl[j]? =some (.blk q.1)∧bs[j]? =some b∧jx σ b q.2∧Fz hp q)
  (hl: ∀j blk,hp0 j=some blk→∃p,gm pl j=some p∧gb P w β hp p (o j) blk) (hd: ∀j,j<pl.length→∃blk,hp0 j=some blk)
  (Sc:aB P w' I2 cT (mW bs) w.heap.size (sO P w o hp0) ⟨w,I⟩) (B6:oO w I o hp0 w' I2 cT (mW bs)) (B7: ∀q∈fr,hp q.1=none):
  ∃β',Le P w I β hp w' I2 β' (cB hp (fr++bk))∧aB P w' I2 β' (cB hp (fr++bk)) B M w0∧ud σ cT (mW bs) β' (cB hp (fr++bk)):=by
 generalize RQ:cB hp (fr++bk)=ga
 let β':Nat→Option Nat:=fun n=>if∃q∈fr,q.1=n then cT (pl.length+(n-nb)) else β n
 have aa1: ∀(j:Nat) id,pl[j]? =some (.blk id)→∃c,hp0 j=some c∧gb P w β hp (.blk id) (o j) c:=by
  intro j id hj;obtain ⟨c,hc⟩:=hd j (cO.1 hj).1;obtain ⟨p,h1,h2⟩:=hl j c hc;rw[po,hj] at h1;cases h1;exact ⟨c,hc,h2⟩
 have uniq: ∀(j1 j2:Nat) id,pl[j1]? =some (.blk id)→pl[j2]? =some (.blk id)→j1=j2:=by
  intro j1 j2 id h1 h2;have m1:(pl.map Place.id)[j1]? =some id:=by rw[gD,h1];rfl
  have m2:(pl.map Place.id)[j2]? =some id:=by rw[gD,h2];rfl
  obtain ⟨z1,z2⟩:=cO.1 m1;obtain ⟨z3,z4⟩:=cO.1 m2;exact (List.getElem_inj n0).1 (z2.trans z4.symm)
 have cls: ∀id,(∃i b,id=nb+i∧bs[pl.length+i]? =some b∧ga id=some (yT σ b)∧hp id=none∧β' id=cT (pl.length+i))∨
   (∃(j:Nat) (b b' c b0:af),pl[j]? =some (.blk id)∧bs[j]? =some b∧hp0 j=some c∧gb P w β hp (.blk id) (o j) c∧hp id=some b0∧b0.le b'∧ga id=some b'∧jx σ b b'∧Fz hp (id,b')∧β' id=β id∧c.le b∧(b≠ .dead→cT j=β id))∨
   (ga id=hp id∧(∀j:Nat,pl[j]? ≠some (.blk id))∧β' id=β id):=by
  intro id;by_cases hm: ∃b,(id,b)∈fr++bk
  ·obtain ⟨b,hm⟩:=hm;obtain ⟨b',K6,he⟩:=K0 (hp:=hp) hm;rw[RQ] at he;rcases eW.1 K6 with h|h
   ·have h0:=B7 _ h;have sP:β' id=cT (pl.length+(id-nb)):=ah ⟨_,h,rfl⟩;rw[FA] at h;obtain ⟨i,b1,k1,k2⟩:=aaT h;rw[qQ] at k1;cases k2;exact .inl ⟨i,b1,rfl,k1,he,h0,by rw[sP];congr 2;omega⟩
   ·obtain ⟨j,b1,q1,q2,q3,q4⟩:=LY _ h;obtain ⟨c,c1,c2⟩:=aa1 j id q1;obtain ⟨c3,b0,c4,c5⟩:=c2.RP;obtain ⟨b2,d1,d2,d3⟩:=B6.blk j c c1;rw[kG,q2] at d1;cases d1;refine .inr (.inl ⟨j,b1,b',c,b0,q1,q2,c1,c2,c4,c2.alH c4 d2 q3 q4,he,q3,q4,ag ?_,d2,fun h=>(d3 h).trans c3⟩);rintro ⟨q,hq,hqe⟩;rw[←hqe,B7 q hq] at c4;cases c4
  ·refine .inr (.inr ⟨?_,fun j hj=> ?_,ag ?_⟩)
   ·rcases y6 (hp:=hp) (l:=fr++bk) (id:=id) with h|⟨b,hb,_⟩
    ·rw[RQ] at h;exact h
    ·exact absurd ⟨b,hb⟩ hm
   ·obtain ⟨ax,b,e,hb⟩:=LX j _ hj;cases e;exact hm ⟨b,eW.2 (.inr hb)⟩
   ·rintro ⟨q,hq,rfl⟩;exact hm ⟨q.2,eW.2 (.inl hq)⟩
 have aa2: ∀b,sO P w o hp0 b→∃(j id:Nat) (b1:af),pl[j]? =some (.blk id)∧hp id=some b1∧bB P w (β id) b1 b∧∀e es,b1≠ .arr e es true:=by
  rintro b ⟨j,c,hc,ho⟩;obtain ⟨p,h1,h2⟩:=hl j c hc;rw[po] at h1;obtain ⟨id,b2,rfl,_⟩:=LX j p h1;obtain ⟨b1,k1,k2,k3⟩:=h2.zy ho;exact ⟨j,id,b1,h1,k1,k2,k3⟩
 have other: ∀id blk b,hp id=some blk→bB P w (β id) blk b→(∀j:Nat,pl[j]? ≠some (.blk id))→¬sO P w o hp0 b∧w'.heap[b]? =w.heap[b]? ∧(∀j,I2 b j→I b j):=by
  intro id blk b e1 e3 e4;have ue: ¬sO P w o hp0 b:=by
   intro hx;obtain ⟨j,ax,b1,i1,i2,i3,_⟩:=aa2 b hx;have:=S.h.inj id ax _ _ b e1 i2 e3 i3;subst this;exact e4 j i1
  have bf:=S.h.lt e1 e3;refine ⟨ue,Sc.cZ b bf ue,fun j h=> ?_⟩;rcases Sc.new b j h with h|h|h
  ·exact h
  ·exact absurd h ue
  ·omega
 have xl:ud σ cT (mW bs) β' ga:=by
  refine ⟨fun j b hj=> ?_,fun j hj=> ?_,fun j id ver path hj=> ?_⟩
  ·rw[kG] at hj;by_cases eD:j<pl.length
   ·obtain ⟨id,b1,e,lO⟩:=LX j _ (cp eD);have LZ:pl[j]? =some (.blk id):=by rw[cp eD,e]
    have RR:gm σ j=some (.blk id):=by rw[vH];exact sN (by rw[po];exact LZ)
    rcases cls id with ⟨i,b2,c1,c2,c3,c4,c5⟩|⟨j',b2,b',c,b0,q1,q2,q3,q4,q5,q6,q7,q8,q9,uf,B8,vI⟩|⟨c1,c2,c3⟩
    ·obtain ⟨c,d1,d2⟩:=aa1 j id LZ;obtain ⟨_,b0,d3,_⟩:=d2.RP;rw[d3] at c4;cases c4
    ·obtain rfl:=uniq _ _ _ q1 LZ;rw[hj] at q2;cases q2;exact ⟨id,b',RR,q7,q8,fun h=>uf.trans (vI h).symm⟩
    ·exact absurd LZ (c2 j)
   ·have hjb:=(cO.1 hj).1;have RR:gm σ j=some (.blk (nb+(j-pl.length))):=by
     rw[vH,po,oB (by omega)];exact LW (by omega)
    have hm:(nb+(j-pl.length),yT σ b)∈fr:=by
     rw[FA];refine aaU ?_;rw[qQ,show pl.length+(j-pl.length)=j by omega];exact hj
    rcases cls (nb+(j-pl.length)) with ⟨i,b2,c1,c2,c3,c4,c5⟩|⟨j',b2,b',c,b0,q1,q2,q3,q4,q5,q6,q7,q8,q9,uf,B8,vI⟩|⟨c1,c2,c3⟩
    ·have hi:i=j-pl.length:=by omega
     subst hi;rw[show pl.length+(j-pl.length)=j by omega] at c2 c5;rw[hj] at c2;cases c2;exact ⟨_,_,RR,c3,.of σ _,fun _=>c5⟩
    ·rw[B7 _ hm] at q5;cases q5
    ·obtain ⟨b',K6,he⟩:=K0 (hp:=hp) (l:=fr++bk) (eW.2 (.inl hm));rw[RQ,c1,B7 _ hm] at he;cases he
  ·rw[kG] at hj;have:=List.getElem?_eq_none_iff.1 hj;rw[vH,po,List.getElem?_eq_none_iff,dd,RO];omega
  ·rw[vH,po] at hj;by_cases eD:j<pl.length
   ·rw[o5 eD] at hj;obtain ⟨ax,b1,e,_⟩:=LX j _ hj;cases e
   ·have hjb:j-pl.length<bs.length-pl.length:=by
     have:=(cO.1 hj).1;rw[dd,RO] at this;omega
    rw[oB (by omega),LW hjb] at hj;cases hj
 have hle:Le P w I β hp w' I2 β' ga:=by
  refine ⟨B6.eN,B6.cZ,fun id blk ab=> ?_,fun id blk blk' b ab cg vJ hb=> ?_,fun id e es vers e' aQ vers' b q i c t v e1 l ab cg hb bf hv ht hc=> ?_⟩
  ·rcases cls id with ⟨i,b2,c1,c2,c3,c4,c5⟩|⟨j',b2,b',c,b0,q1,q2,q3,q4,q5,q6,q7,q8,q9,uf,B8,vI⟩|⟨c1,c2,c3⟩
   ·rw[ab] at c4;cases c4
   ·rw[ab] at q5;cases q5;exact ⟨b',q7,q6,fun _=>uf⟩
   ·exact ⟨blk,c1.trans ab,af.le_refl _,fun _=>c3⟩
  ·rcases cls id with ⟨i,b2,c1,c2,c3,c4,c5⟩|⟨j',b2,b',c,b0,q1,q2,q3,q4,q5,q6,q7,q8,q9,uf,B8,vI⟩|⟨c1,c2,c3⟩
   ·rw[ab] at c4;cases c4
   ·rw[q7] at cg;cases cg;exact B6.size j' c b2 b q3 (by rw[kG];exact q2) (q8.aaX vJ) (q4.RP.1.trans hb)
   ·rw[c1,ab] at cg;cases cg;simp only[bsize,(other id blk b ab (.root vJ hb) c2).2.1]
  ·rcases cls id with ⟨i2,b2,c1,c2,c3,c4,c5⟩|⟨j',b2,b',c',b0,q1,q2,q3,q4,q5,q6,q7,q8,q9,uf,B8,vI⟩|⟨c1,c2,c3⟩
   ·rw[ab] at c4;cases c4
   ·rw[q7] at cg;cases cg;obtain ⟨_,_,xh,_,_,k1,k2⟩:=q9 ⟨_,_,_,rfl⟩;change hp id=_ at k1;rw[ab] at k1;cases k1;cases k2;rw[aaY bf] at hv;omega
   ·rw[c1,ab] at cg;cases cg;exact ⟨l,rfl,hc.mono fun _ _ _ _ h=>(other id _ _ ab (.row hb h) c2).2.1⟩
 have place: ∀id blk b,ga id=some blk→bB P w' (β' id) blk b→(∃j c,mW bs j=some c∧bB P w' (cT j) c b∧gm σ j=some (.blk id))∨(b<w.heap.size∧¬sO P w o hp0 b∧hp id=some blk∧bB P w (β id) blk b):=by
  intro id blk b e1 e3;rcases cls id with ⟨i,b2,c1,c2,c3,c4,c5⟩|⟨j',b2,b',c,b0,q1,q2,q3,q4,q5,q6,q7,q8,q9,uf,B8,vI⟩|⟨c1,c2,c3⟩
  ·rw[c3] at e1;cases e1;rw[c5] at e3;refine .inl ⟨pl.length+i,b2,by rw[kG];exact c2,(jx.of σ b2).zy e3,?_⟩;have:=(cO.1 c2).1;rw[vH,po,oB (by omega),LW (by omega),c1];congr 3;omega
  ·rw[q7] at e1;cases e1;have vJ:b2≠ .dead:=q8.aaX e3.alive;rw[uf,←vI vJ] at e3;exact .inl ⟨j',b2,by rw[kG];exact q2,q8.zy e3,by rw[vH];exact sN (by rw[po];exact q1)⟩
  ·rw[c1] at e1;rw[c3] at e3;have:=e3.mono (w:=w) fun b hb=>(other id blk b e1 hb c2).2.1;exact .inr ⟨S.h.lt e1 this,(other id blk b e1 this c2).1,e1,this⟩
 have xe: ∀b,sO P w o hp0 b∨w.heap.size≤b→M b∨B≤b:=by
  rintro b (h|h)
  ·obtain ⟨j,id,b1,i1,i2,i3,_⟩:=aa2 b h;exact S.h.own id b1 b i2 i3
  ·exact .inr (kP S.size h)
 have RS: ∀j c b,mW bs j=some c→bB P w' (cT j) c b→sO P w o hp0 b∨w.heap.size≤b:=fun j c b h1 h2=>Sc.h.own j c b h1 h2;refine ⟨β',hle,⟨⟨fun id blk ab=> ?_,fun i1 i2 b1 b2 b e1 e2 f1 f2=> ?_,fun id blk b ab hb=> ?_,Sc.h.jK⟩,fun b hb hM=> ?_,kP S.size Sc.size,fun b j hb=> ?_,⟨Sc.io.1.trans S.io.1,Sc.io.2.trans S.io.2⟩⟩,xl⟩
 ·rcases cls id with ⟨i,b2,c1,c2,c3,c4,c5⟩|⟨j',b2,b',c,b0,q1,q2,q3,q4,q5,q6,q7,q8,q9,uf,B8,vI⟩|⟨c1,c2,c3⟩
  ·rw[c3] at ab;cases ab;rw[c5];exact xl.aaW (Sc.h.rel _ b2 (by rw[kG];exact c2)) (.of σ b2)
  ·rw[q7] at ab;cases ab;have:=xl.aaW (Sc.h.rel j' b2 (by rw[kG];exact q2)) q8;by_cases vJ:b2= .dead
   ·subst vJ;cases q8;exact .dead
   ·rw[uf,←vI vJ];exact this
  ·rw[c1] at ab;rw[c3];exact (S.h.rel id blk ab).mono hle fun b hb=>(other id blk b ab hb c2).2
 ·rcases place i1 b1 b e1 f1 with ⟨j1,c1,g1,g2,g3⟩|⟨g1,g2,g3,g4⟩<;>rcases place i2 b2 b e2 f2 with ⟨j2,c2,k1,k2,k3⟩|⟨k1,k2,k3,k4⟩
  ·have:=Sc.h.inj j1 j2 c1 c2 b g1 k1 g2 k2;subst this;rw[g3] at k3;cases k3;rfl
  ·rcases RS j1 c1 b g1 g2 with h|h
   ·exact absurd h k2
   ·omega
  ·rcases RS j2 c2 b k1 k2 with h|h
   ·exact absurd h g2
   ·omega
  ·exact S.h.inj i1 i2 _ _ b g3 k3 g4 k4
 ·rcases place id blk b ab hb with ⟨j1,c1,g1,g2,g3⟩|⟨g1,g2,g3,g4⟩
  ·exact xe b (RS j1 c1 b g1 g2)
  ·exact S.h.own id blk b g3 g4
 ·refine (Sc.cZ b (gB hb S.size) fun hx=> ?_).trans (S.cZ b hb hM)
  rcases xe b (.inl hx) with h|h
  ·exact hM h
  ·omega
 ·rcases Sc.new b j hb with h|h|h
  ·exact S.new b j h
  ·exact .inr (xe b (.inl h))
  ·exact .inr (xe b (.inr h))
end
section
variable {P:Program} {A:dH} {w w':World} {I I' I2:Nat→Nat→Prop} {μ β β' cT:Nat→Option Nat} {hp hp' hp0 bX:Nat→Option af} {C:ae} {B:Nat} {M:Nat→Prop} {w0:Start}
theorem aa3 (hp:Nat→Option af): ∀(a b:List (Nat×af)),cB hp (a++b)=cB (cB hp b) a
 | [],b=>rfl
 | (i,x)::a,b=>by simp only[List.cons_append,cB,aa3 hp a b]
theorem B9 {hp:Nat→Option af} {l:List (Nat×af)} {id:Nat} (h: ∀q∈l,q.1≠id):cB hp l id=hp id:=by
 rcases y6 (hp:=hp) (l:=l) (id:=id) with h1|⟨b,hb,_⟩
 all_goals grind
def Cc (P : Program) : Prop := ∀ (f : Nat) fn, P.funcs[f]? = some fn → (fn.name == "runtime.NumGoroutine") = false
def L0 (P:Program) (f:FuncId) (e:TypeId):Prop:=
 (∀args w,(callFunc f args).run P w= .ok (.enter f args) w)∧∃t,P.underlying t=some (.slice e)∧
  ∀(s:Value) (w:World) (Q:Ending→World→Prop),(s= .slice none 0 0→Q (.returned (.slice none 0 0)) w)→
   (∀a n c,s= .slice (some a) n c→∃v w',(Builtin.append_ #[t,t] t #[.slice (some ⟨w.heap.size,0,none⟩) 0 0,s]).run P (w.alloc (.cells #[] e))= .ok v w'∧Q (.returned v) w')→
   (s= .slice none 0 0∨∃a n c,s= .slice (some a) n c)→Calls P f #[s] w Q
structure lP (P:Program) (A:dH):Prop where
 count:Cc P
 ext: ∀f T,A.ext f=some T→∀(b:Nat) (C:Array Value) (w:World),w.heap[b]? =some (.cells C T (0,0))→C.size=P.cellsOf T→(C[0]? =some (.pointer none)∨C[0]? =some (.pointer (some ⟨b,0,none⟩)))→
  (callFunc f #[.pointer (some ⟨b,0,none⟩)]).run P w= .ok (.enter f #[.pointer (some ⟨b,0,none⟩)]) w∧
  Calls P f #[.pointer (some ⟨b,0,none⟩)] w fun e w'=>e= .returned (.tuple #[])∧(w'=w∨w'=w.setCell ⟨b,0,none⟩ (.pointer (some ⟨b,0,none⟩)))
 idle: ∀f,A.idle f=true→(∀args w,(callFunc f args).run P w= .ok (.enter f args) w)∧
  ∀args w,CallsD P f args .returning w fun e u' w'=>(∃v,e= .returned v)∧u'= .returning∧w'=w
 sd: ∀f e,A.sd f=some e→L0 P f e
theorem lP.here {P:Program} {A:dH} (h:lP P A) (f id:Nat):lP P (A.here f id):=⟨h.count,h.ext,h.idle,h.sd⟩
def FB (E:FuncId→Bool) (d:Deferred):Prop:= ∃f cap,d.target= .fn (.func f) cap∧E f=true
theorem RT {P:Program} {A:dH} (hP:lP P A) {fn:Func} {tmps:Array Value} {R:Ending→World→Prop} {w:World} {v:Value} (hv:(results fn tmps).run P w= .ok v w) (hR:R (.returned v) w):
  ∀ds:List Deferred,(∀d∈ds,FB A.idle d)→Leaves P fn tmps R ds .returning w
 | [],_=>⟨v,hv,hR⟩
 | d::ds,h=>by
  obtain ⟨f,cap,ht,hf⟩:=h d (by simp);obtain ⟨k1,k2⟩:=hP.idle f hf;obtain ⟨t,das⟩:=d;simp only at ht;subst ht;refine leaves_cons (f:=f) (args:=das++cap) (by simp) ?_ ?_
  ·simp only[invoke];grind
  ·refine (k2 (das++cap) w).mono fun e u' w' hr=> ?_;obtain ⟨⟨v',rfl⟩,rfl,rfl⟩:=hr;exact RT hP hv hR ds fun d hd=>h d (qP _ hd)
def FC (P:Program) (A:dH) (o:Oper) (a:Act) (w:World) (I:Nat→Nat→Prop) (β:Nat→Option Nat) (hp:Nat→Option af) (B:Nat) (M:Nat→Prop) (w0:Start) (r:R):Prop:=
 ∀(next:Act→World→Prop) (Q:Exit→Act→World→Prop),
  (∀v w' I' β' ds,Le P w I β hp w' I' β' (cB hp r.upd)→aB P w' I' β' (cB hp r.upd) B M w0→ai P w' I' β' (cB hp r.upd) v r.v→(∀d∈ds,d∈a.defers∨FB A.idle d)→next ({a with defers:=ds}.put o.dst v) w')→o.wp P a w next Q
theorem tL.step {o:Oper} {a:Act} {r:R} (h:tL P ((execOp a.eval o).run P w) w I β hp B M w0 r):FC P A o a w I β hp B M w0 r:=by
 obtain ⟨v,w',I',β',h1,h2,h3,h4⟩:=h;intro next Q hn
 unfold Oper.wp;rcases h1 with h1|⟨h1,rfl⟩
 ·rw[h1];exact hn v w' I' β' a.defers h2 h3 h4 fun d hd=> .inl hd
 ·rw[h1];exact hn _ w' I' β' a.defers h2 h3 h4 fun d hd=> .inl hd
theorem aa4: ∀(l:List (Nat×VS)),sg l=w4 (l.map (·.2))
 | []=>rfl
 | (_,s)::l=>by simp only[sg,iS,w4,aa4 l]
theorem alI (hC:oP P A C) (S:aB P w I β hp B M w0) (hg:jL P A.aL w I) {vals:List Value} {args:List V} {nb key:Nat} {f:FuncId} {r:R} {rd:List Nat} (hlen:vals.length=args.length)
  (dg: ∀(j:Nat) v x,vals[j]? =some v→args[j]? =some x→ai P w I β hp v x) (h:(Ev P A nb key f args).run C hp=some (r,rd)):
  ∃fn c,P.funcs[f]? =some fn∧fn.body=some c∧Calls P f vals.toArray w fun e w'=> ∃v I' β',e= .returned v∧Le P w I β hp w' I' β' (cB hp r.upd)∧aB P w' I' β' (cB hp r.upd) B M w0∧ai P w' I' β' (cB hp r.upd) v r.v:=by
 unfold Ev at h;obtain ⟨zz,h0⟩:=aH h;clear h;rw[ba] at zz;subst zz;obtain ⟨h1,jw,d1,u1,a1,a2,a3,a5,a4⟩:=RL S h0 hlen dg;obtain ⟨h2,xy,d2,u2,b1,b2,b3,b4⟩:=aaL S a1;clear h0 a1;obtain ⟨hc,h3⟩:=aH b1;clear b1;simp only[aK,ba,nF] at hc;obtain ⟨fS,pr⟩:=hc;have zA:=a2.trans b2;have oZ:h2.ds=d1++d2:=by have:=zA.ds;grind
 have vD:h2.upd=u1++u2:=by have:=zA.upd;grind
 have n0:(h2.pl.map Place.id).Nodup:=zA.nodup (by simp);obtain ⟨c1,o,c2,c3⟩:=b4 [];simp only[j4] at c1 c2 c3;cases FD:C key h2.ds with
 | none=>
  simp only[Rd.run,FD] at h3;cases h3
 | some es=>
  have sw: ∃gJ,(Eu P (A.so key es) nb h2 (A.lv key es)).run C hp=some (r,gJ):=by
   obtain ⟨x,hx,e⟩:=bind_some h3;rw[FD] at hx;cases hx;unfold dH.so dH.lv;cases dK:A.alt key with
   | none=>grind
   | some S2=>
    rw[dK] at e;simp only[Rd.run] at e;grind
  clear h3;obtain ⟨gJ,h3⟩:=sw;unfold Eu at h3;simp only at h3;generalize iq:gQ (A.so key es).dr ((A.lv key es).drop (sg (A.so key es).cC))=bs at h3;generalize vH:h2.pl++w5 nb (bs.length-h2.pl.length)=σ at h3;generalize FA:vf σ nb (bs.drop h2.pl.length)=fr at h3;obtain ⟨p0,bk,rd4,p1,p2,_,p3⟩:=aaS h3;obtain ⟨B7,rd5,p4⟩:=aaV p1;obtain ⟨zB,p4⟩:=aH p4;obtain rfl:=aZ p4;have sy:h2.pl.length≤bs.length:=by grind
  have LY: ∀q∈bk,∃(j:Nat) (b:af),h2.pl[j]? =some (.blk q.1)∧bs[j]? =some b∧jx σ b q.2∧Fz hp q:=by
   intro q hq;rcases p2 q hq with hx|⟨j,b,k1,k2,k3,k4⟩
   ·simp at hx
   ·have hj:=(cO.1 k1).1;rw[iQ hj] at k2;exact ⟨j,b,k1,k2,k3,k4⟩
  obtain ⟨fn,c,hf,hb,RU⟩:=hC key h2.ds es FD;refine ⟨fn,c,hf,hb,?_⟩;have ug:gQ (A.sin key).dr (h2.ds.drop (sg (A.sin key).cC))=gQ (A.sin key).dr d2:=by
   rw[oZ,aa4,LO a3]
  have RV:(bZ (A.sin key) h2.ds).hp=mW (gQ (A.sin key).dr d2):=by
   simp only[bZ,mk,ug]
  have hl: ∀j blk,(bZ (A.sin key) h2.ds).hp j=some blk→∃p,gm h2.pl j=some p∧gb P w β hp p (o j) blk:=by
   intro j blk hj;rw[RV,kG] at hj;grind
  have hd: ∀j,j<h2.pl.length→∃blk,(bZ (A.sin key) h2.ds).hp j=some blk:=by
   intro j hj;rw[RV,kG];simp_all
  have aa5:Fu P w β hp h2.pl o (bZ (A.sin key) h2.ds).hp:=by
   intro j p hj;obtain ⟨blk,k1⟩:=hd j (by rw[po] at hj;grind);grind
  have i1: ∀b j,I b j→lN P w I β hp h2.upd b j:=fun b j h=> .inl h;have entry:=alD (hp0:=(bZ (A.sin key) h2.ds).hp) S n0 pr hl (fun dI j blk hj=>by
   have jM:=hj;rw[RV,kG] at jM;exact c3 (lN P w I β hp h2.upd) o _ i1 (fun q hq b j hb=> .inr ⟨q,by grind,hb⟩) h2.pl [] (by simp) aa5 j blk jM (dI j blk hj)) (fun b j h=>h.elim (S.h.jK b j) fun ⟨p,_,blk,g1,g2⟩=>S.h.lt g1 g2.own)
  have alJ:vals.length=(A.sin key).cC.length:=by grind
  have ha:=RU w (lN P w I β hp h2.upd) o vals entry (hg.mono i1 fun _ _ _=>rfl) alJ fun j v x hj hx=>by
   rw[oZ] at hx;exact (((a4.later b2) (lN P w I β hp h2.upd) o _ i1 (fun q hq b j hb=> .inr ⟨q,by grind,hb⟩) h2.pl [] (by simp) aa5) d2).2 j v x hj hx
  refine ha.mono fun e w' FE=> ?_;obtain ⟨v,I2,cT,rfl,ha⟩:=FE;have L3:(bZ (A.so key es) (A.lv key es)).hp=mW bs:=by simp only[bZ,mk,iq]
  cases aa6:(A.so key es).safe P with
  | true=>
   simp only[cond_true,j4];have lh: ∀b j,I b j→I2 b j:=fun b j h=>ha.le.eN b j (i1 b j h);obtain ⟨s1,s2⟩:=alG aa6 lh ha.B5 i1;have B6:oO w I o (bZ (A.sin key) h2.ds).hp w' I cT (mW bs):=by
    rw[←L3];exact ⟨fun _ _ h=>h,fun b j h=>ha.le.cZ b j (i1 b j h),ha.le.blk,ha.le.size⟩
   obtain ⟨β',k1,k2,k3⟩:=aa0 S vH.symm FA.symm n0 sy p3 LY hl hd (by rw[←L3];exact ⟨s1.h,s1.cZ,s1.size,fun b j h=> .inl h,s1.io⟩) B6 B7;exact ⟨v,I,β',rfl,k1,k2,k3.val (by have:=s2 v ha.res;grind)⟩
  | false=>
   simp only[cond_false];rw[aa6,Bool.false_or,gC] at zB;have FF: ∀q∈h2.upd,BF hp q:=fun q hq=>by
    have sJ:=zB q hq;rcases zA.LP q (vD▸hq) with h|⟨T,cs,h,_⟩
    all_goals grind
   obtain ⟨tP,S1⟩:=EP S FF;rw[←fN,aa3];have ue: ∀p∈h2.pl,cB hp h2.upd p.id=hp p.id:=fun p hp=>B9 fun q hq e=>
    LR pr (j5.2 ⟨q,hq,rfl⟩) (e▸j5.2 ⟨p,hp,rfl⟩)
   have alK: ∀q∈bk,∃(j:Nat) (b:af),h2.pl[j]? =some (.blk q.1)∧bs[j]? =some b∧jx σ b q.2∧Fz (cB hp h2.upd) q:=by
    intro q hq;obtain ⟨j,b,k1,k2,k3,k4⟩:=LY q hq;refine ⟨j,b,k1,k2,k3,fun hn=> ?_⟩;have:=ue _ (mR k1);simp only[Place.id] at this;grind
   have EK: ∀j blk,(bZ (A.sin key) h2.ds).hp j=some blk→∃p,gm h2.pl j=some p∧gb P w β (cB hp h2.upd) p (o j) blk:=by
    intro j blk hj;obtain ⟨p,k1,k2⟩:=hl j blk hj;exact ⟨p,k1,k2.other (ue p (by rw[po] at k1;grind))⟩
   have alL: ∀q∈fr,cB hp h2.upd q.1=none:=by
    intro q hq;rw[B9 fun q' dz e=> ?_]
    ·grind
    ·obtain ⟨e1,dD,_,h5⟩:=FF q' dz;grind
   obtain ⟨β',k1,k2,k3⟩:=aa0 S1 vH.symm FA.symm n0 sy p3 alK EK hd (by rw[←L3];exact ha.B5) (by rw[←L3];exact ha.le) alL;exact ⟨v,I2,β',rfl,tP.trans k1,k2,k3.val (by have:=ha.res;grind)⟩
theorem aa7 (hC:oP P A C) (hP:lP P A) (S:aB P w I β hp B M w0) (hg:jL P A.aL w I) {a:Act} {nb key:Nat} {o:Oper} {f:FuncId} {vals:List Value} {args:List V} (hlen:vals.length=args.length)
  (dg: ∀(j:Nat) v x,vals[j]? =some v→args[j]? =some x→ai P w I β hp v x) {r:R} {rd:List Nat} (h:(Ev P A nb key f args).run C hp=some (r,rd))
  (hex:(execOp a.eval o).run P w=(callFunc f vals.toArray).run P w):FC P A o a w I β hp B M w0 r:=by
 intro next Q hn
 obtain ⟨fn,c,hf,hb,RU⟩:=alI hC S hg hlen dg h;unfold Oper.wp;rw[hex,MuLone.run_callFunc_enter hf (hP.count f _ hf) hb,Oper.upon_enter];refine RU.mono fun e w' FE=> ?_;obtain ⟨v,I2,cT,rfl,k1,k2,k3⟩:=FE;exact hn v w' I2 cT a.defers k1 k2 k3 fun d hd=> .inl hd
theorem nR.args {a:Act} {sl:Nat→V} (hs:nR P w I β hp a sl) (hg:jL P A.aL w I) {args:Array Operand} {ts:Array TypeId} (bw:args.size=ts.size):
  (args.map a.eval).toList.length=((args.toList.zip ts.toList).map fun p=>bd P A.aL p.2 sl p.1).length∧
  ∀(j:Nat) v x,(args.map a.eval).toList[j]? =some v→((args.toList.zip ts.toList).map fun p=>bd P A.aL p.2 sl p.1)[j]? =some x→ai P w I β hp v x:=by
 refine ⟨by simp;omega,fun j v x hv hx=> ?_⟩;simp only[Array.toList_map,gD,List.getElem?_zip_eq_some,Option.map_eq_some_iff] at hv hx;obtain ⟨x1,tZ,rfl⟩:=hv;obtain ⟨⟨y1,t1⟩,⟨L4,_⟩,rfl⟩:=hx;rw[tZ] at L4;cases L4;exact hs.ev hg t1 _
theorem alM (hP:lP P A) (S:aB P w I β hp B M w0) (hg:jL P A.aL w I) {a:Act} {sl:Nat→V} (hs:nR P w I β hp a sl) {dst:Option Tmp} {ty e:TypeId} {pos:String} {after:Array Edge} {guard:Option (Nat×Bool)} {f:FuncId}
  {args:Array Operand} {argTypes:Array TypeId} {nb:Nat} {r:R} {rd:List Nat} (nY:A.sd f=some e)
  (h:((match args.toList with
    | [x]=> .aD (dw P e) (va e (bd P A.aL ty sl x) fun xs=> .aD (Nat.ble (xs.length*P.bytesOf e) aX) (jh nb (.arr e xs false) (.whole e nb) []))
    | _=> .fail):Rd R).run C hp=some (r,rd)):FC P A (Oper.mk dst (.call (Go.Call.mk (.value (.func f)) args argTypes)) ty pos after guard) a w I β hp B M w0 r:=by
 cases ha:args.toList with
 | nil=>rw[ha] at h;cases h
 | cons x l=>
  rw[ha] at h;cases l with
  | cons _ _=>cases h
  | nil=>
   simp only at h;have e1:args= #[x]:=by grind
   subst e1;have hx:=hs.ev hg ty x;obtain ⟨aw,h⟩:=aH h;have fin: ∀{w1:World} {tQ:Nat→Option Nat},(∀id blk,hp id=some blk→fi P w1 I tQ hp (tQ id) blk)→ai P w1 I tQ hp (a.eval x) (bd P A.aL ty sl x)→∃xs,(((∃a',a.eval x= .slice a' 0 0)∧xs=[])∨∃a' c news,Row P w1 I e (a.eval x) xs a' c news)∧
     xs.length*P.bytesOf e≤aX∧hp nb=none∧r=⟨.whole e nb,[(nb,.arr e xs false)]⟩:=by
    intro w1 tQ h1 h2;obtain ⟨xs,nc,l,h⟩:=Fb h1 aw h2 h;obtain ⟨eI,h⟩:=aH h;rw[fo] at eI;obtain ⟨hn,rfl⟩:=mz h;grind
   obtain ⟨c1,t,hu,c2⟩:=hP.sd f e nY;intro next Q tY
   unfold Oper.wp;have e2:(execOp a.eval ⟨dst,.call ⟨.value (.func f),#[x],argTypes⟩,ty,pos,after,guard⟩).run P w= .ok (.enter f #[a.eval x]) w:=by
    have iu:a.eval (.func f)= .func (.func f) #[] #[]:=rfl;simpa[execOp,resolve,iu,Deferred.ofValue,invoke] using c1 #[a.eval x] w
   rw[e2,Oper.upon_enter];refine c2 _ w _ (fun FG=> ?_) (fun b n c BP=> ?_) ?_
   ·obtain ⟨xs,nc,eI,hn,rfl⟩:=fin S.h.rel hx;have kE:xs=[]:=by
     rcases nc with ⟨_,h⟩|⟨a,c,news,hr⟩
     ·exact h
     ·have:=hr.val.symm.trans FG;cases this
    subst kE;obtain ⟨a1,a2⟩:=ER S e hn;exact tY _ w I _ a.defers a1 a2 (.ej (bW _ _ _) (bW _ _ _)) fun d hd=> .inl hd
   ·obtain ⟨m1,m2⟩:=ajH (w':=w.alloc (.cells #[] e)) S (fun b hb=>heap_alloc_old w _ b hb) (by simp) ⟨rfl,rfl⟩;obtain ⟨xs,nc,eI,hn,rfl⟩:=fin m2.h.rel (hx.mono m1);obtain ⟨v,w',β',a1,a2,a3,a4⟩:=Ra (ty:=t) (a0:=some ⟨w.heap.size,0,none⟩) m2 hu aw hn eI nc;exact ⟨v,w',a1,tY v w' I β' a.defers (m1.trans a2) a3 a4 fun d hd=> .inl hd⟩
   ·obtain ⟨xs,nc,eI,hn,rfl⟩:=fin S.h.rel hx;rcases nc with ⟨⟨b,h⟩,_⟩|⟨b,c,news,hr⟩
    ·rw[h];cases b with
     | none=>grind
     | some b=>grind
    ·exact .inr ⟨_,_,_,hr.val⟩
theorem alN (hP:lP P A) (S:aB P w I β hp B M w0) (hg:jL P A.aL w I) {a:Act} {sl:Nat→V} (hs:nR P w I β hp a sl) {dst:Option Tmp} {ty T0:TypeId} {pos:String} {after:Array Edge} {guard:Option (Nat×Bool)} {f:FuncId}
  {args:Array Operand} {argTypes:Array TypeId} {r:R} {rd:List Nat} (FH:A.ext f=some T0)
  (h:((match args.toList with
   | [x]=>
    match bd P A.aL ty sl x with
    | .ptr id i c=>Rd.get id fun
     | some (.var T cs)=> .aD (Nat.beq T T0&&(tB P T&&(Nat.beq cs.length (P.cellsOf T)&&(Nat.beq i 0&&Nat.beq c 0)))) (.ret ⟨.bK [],[(id,.var T (.undef::cs.tail))]⟩)
     | _=> .fail
    | _=> .fail
   | _=> .fail):Rd R).run C hp=some (r,rd)):FC P A (Oper.mk dst (.call (Go.Call.mk (.value (.func f)) args argTypes)) ty pos after guard) a w I β hp B M w0 r:=by
 cases ha:args.toList with
 | nil=>rw[ha] at h;cases h
 | cons x l=>
  rw[ha] at h;cases l with
  | cons _ _=>cases h
  | nil=>
   simp only at h;have e1:args= #[x]:=by grind
   subst e1;have hx:=hs.ev hg ty x;cases jv:bd P A.aL ty sl x<;>rw[jv] at h hx<;>simp only at h<;>first|(cases h;done)|skip
   rename_i id i c;obtain ⟨l,h1⟩:=run_get h;cases ab:hp id with
   | none=>rw[ab] at h1;cases h1
   | some blk=>
    rw[ab] at h1;cases blk<;>simp only at h1<;>first|(cases h1;done)|skip
    rename_i T cs;obtain ⟨h2,h3⟩:=aH h1;simp only[aK,ba] at h2;obtain ⟨rfl,b9,hlc,rfl,rfl⟩:=h2;obtain rfl:=aZ h3;obtain ⟨b,hb,he⟩:=hx.iZ ab (by simp);have hr:=S.h.rel id _ ab;rw[hb] at hr;cases hr with
    | @var _ b' Ca _ aA hh bw hI kE iY=>
     cases aA;have BW:a.eval x= .pointer (some ⟨b,0,none⟩):=by grind
     obtain ⟨q1,q2⟩:=hP.ext f T FH b Ca w hh (bw.trans hlc) (iY b9);have h0:0<Ca.size:=by
      rcases iY b9 with k|k<;>exact (wQ.1 k).1
     have sB:(V.undef::cs.tail).length=cs.length:=by
      grind
     have rel: ∀(C':Array Value),(∀j,0<j→C'[j]? =Ca[j]?)→∀(j:Nat) v y,C'[j]? =some v→(V.undef::cs.tail)[j]? =some y→ai P w I β hp v y:=by
      intro C' Lj j v y hj hy;cases j with
      | zero=>simp at hy;subst hy;exact .undef
      | succ j=>
       grind
     have fin: ∀w' C',(∀b',b'≠b→w'.heap[b']? =w.heap[b']?)→w'.heap[b]? =some (.cells C' T (0,0))→C'.size=Ca.size→w.heap.size≤w'.heap.size→w'.os=w.os∧w'.output=w.output→
       (∀j,0<j→C'[j]? =Ca[j]?)→(C'[0]? =some (.pointer none)∨C'[0]? =some (.pointer (some ⟨b,0,none⟩)))→
       Le P w I β hp w' I β (av hp id (some (.var T (V.undef::cs.tail))))∧aB P w' I β (av hp id (some (.var T (V.undef::cs.tail)))) B M w0:=by
      intro w' C' k1 k2 k3 k4 k5 k6 k7;exact ES (w':=w') (blk':= .var T (V.undef::cs.tail)) S ab (by simp) rfl hb hI (by simp) k1 (by rw[kY k2,kY hh,k3]) k4 k5 fun hle=>
       .var rfl k2 (by omega) hI (fun j v y hj hy=>(rel C' k6 j v y hj hy).mono hle) fun _=>k7
     intro next Q hn
     unfold Oper.wp;have e2:(execOp a.eval ⟨dst,.call ⟨.value (.func f),#[x],argTypes⟩,ty,pos,after,guard⟩).run P w= .ok (.enter f #[.pointer (some ⟨b,0,none⟩)]) w:=by
      have iu:a.eval (.func f)= .func (.func f) #[] #[]:=rfl;simpa[execOp,resolve,iu,Deferred.ofValue,invoke,BW] using q1
     rw[e2,Oper.upon_enter];refine q2.mono fun e w' FE=> ?_;obtain ⟨rfl,hw⟩:=FE;have aa8:Le P w I β hp w' I β (av hp id (some (.var T (V.undef::cs.tail))))∧aB P w' I β (av hp id (some (.var T (V.undef::cs.tail)))) B M w0:=by
      rcases hw with rfl|rfl
      ·exact fin w' Ca (fun _ _=>rfl) hh rfl (az _) ⟨rfl,rfl⟩ (fun _ _=>rfl) (iY b9)
      ·refine fin (w.setCell ⟨b,0,none⟩ (.pointer (some ⟨b,0,none⟩))) (Ca.setIfInBounds 0 (.pointer (some ⟨b,0,none⟩))) (fun b' cm=> ?_) ?_ (by simp) (by simp_all) ⟨rfl,rfl⟩ (fun j hj=> ?_) (.inr ?_)
       ·simp only[World.setCell,Kl];grind
       ·simp[World.setCell,Kl,hh]
       all_goals grind
     exact hn (.tuple #[]) w' I β a.defers aa8.1 aa8.2 (.bK rfl fun j v y hj _=>by simp at hj) fun d hd=> .inl hd
theorem alO (hC:oP P A C) (hP:lP P A) (S:aB P w I β hp B M w0) (hg:jL P A.aL w I) {a:Act} {sl:Nat→V} (hs:nR P w I β hp a sl) {ix nb:Nat} {o:Oper} {r:R} {rd:List Nat}
  (h:(iU P A sl ix nb o).run C hp=some (r,rd)):FC P A o a w I β hp B M w0 r:=by
 cases hc:RC o.op with
 | false=>exact (ali S hg hs hc h).step
 | true=>
  obtain ⟨dst,op,ty,pos,after,guard⟩:=o;cases op<;>simp only[RC] at hc<;>first|(cases hc;done)|skip
  case defer c=>
   obtain ⟨callee,args,argTypes⟩:=c;cases callee with
   | invoke r m=>simp only[iU] at h;cases h
   | builtin b=>simp only[iU] at h;cases h
   | value f=>
   cases f with
   | tmp t=>
    simp only[iU] at h;cases b9:sl t<;>rw[b9] at h<;>simp only at h<;>first|(cases h;done)|skip
    rename_i f xs ys;obtain ⟨h1,h2⟩:=aH h;obtain rfl:=aZ h2;have hv:=hs t;rw[b9] at hv;generalize zr:a.tmps.getD t undef=vt at hv;cases hv with
    | @fn _ fs cs _ _ q1 q2 q3 q4=>
     intro next Q hn
     unfold Oper.wp;have iu:a.eval (.tmp t)= .func (.func f) fs cs:=zr;have e1:(execOp a.eval ⟨dst,.defer ⟨.value (.tmp t),args,argTypes⟩,ty,pos,after,guard⟩).run P w= .ok (.defer {target:= .fn (.func f) cs,args:=fs++args.map a.eval}) w:=by
      simp[execOp,resolve,iu,Deferred.ofValue]
     rw[e1,Oper.upon_defer];exact hn undef w I β _ (Le.refl w I β hp) S .undef fun d hd=>by
      rcases iR.1 hd with rfl|hd
      ·exact .inr ⟨f,cs,rfl,h1⟩
      grind
   | func f=>simp only[iU] at h;cases h
   | const _=>simp only[iU] at h;cases h
   | global _=>simp only[iU] at h;cases h
  rename_i c;obtain ⟨callee,args,argTypes⟩:=c;cases callee with
  | invoke r m=>cases hc
  | builtin b=>cases hc
  | value f=>
   cases f with
   | func f=>
    simp only[iU] at h;cases FH:A.ext f with
    | some T0=>
     rw[FH] at h;simp only at h;exact alN hP S hg hs FH h
    | none=>
    rw[FH] at h;simp only at h;cases nY:A.sd f with
    | some e0=>
     rw[nY] at h;simp only at h;exact alM hP S hg hs nY h
    | none=>
    rw[nY] at h;simp only at h;obtain ⟨h1,h2⟩:=aH h;rw[ba] at h1;obtain ⟨k1,k2⟩:=hs.args hg h1;refine aa7 hC hP S hg k1 k2 h2 ?_;have e1:(args.map a.eval).toList.toArray=args.map a.eval:=Array.toArray_toList;rw[e1];simp[execOp,resolve,Act.eval,Deferred.ofValue,invoke]
   | tmp t=>
    simp only[iU] at h;cases b9:sl t<;>rw[b9] at h<;>simp only at h<;>first|(cases h;done)|skip
    rename_i f xs ys;obtain ⟨h1,h2⟩:=aH h;rw[ba] at h1;obtain ⟨k1,k2⟩:=hs.args hg h1;have hv:=hs t;rw[b9] at hv;generalize zr:a.tmps.getD t undef=vt at hv;cases hv with
    | @fn _ fs cs _ _ q1 q2 q3 q4=>
     have l1:fs.toList.length=xs.length:=by omega
     have l3:cs.toList.length=ys.length:=by omega
     have r1: ∀(j:Nat) v x,fs.toList[j]? =some v→xs[j]? =some x→ai P w I β hp v x:=fun j v x hj hx=>q2 j v x (by grind) hx;have r3: ∀(j:Nat) v x,cs.toList[j]? =some v→ys[j]? =some x→ai P w I β hp v x:=fun j v x hj hx=>q4 j v x (by grind) hx;refine aa7 hC hP S hg (vals:=fs.toList++(args.map a.eval).toList++cs.toList) (args:=xs++((args.toList.zip argTypes.toList).map fun p=>bd P A.aL p.2 sl p.1)++ys) (by grind) ?_ h2 ?_
     ·grind
     ·have e1:(fs.toList++(args.map a.eval).toList++cs.toList).toArray=fs++args.map a.eval++cs:=by
       grind
      rw[e1];have iu:a.eval (.tmp t)= .func (.func f) fs cs:=zr;simp[execOp,resolve,iu,Deferred.ofValue,invoke]
   | _=>cases hc
end
section
variable {P:Program} {A:dH} {w w':World} {I I' I2:Nat→Nat→Prop} {μ β β':Nat→Option Nat} {hp hp':Nat→Option af} {C:ae} {B:Nat} {M:Nat→Prop} {w0:Start}
structure iC (P:Program) (E:FuncId→Bool) (G:Nat→V) (w:World) (I:Nat→Nat→Prop) (β:Nat→Option Nat) (n:Nat) (a:Act) (st:St):Prop where
 sl:nR P w I β st.hp a st.sl
 size:a.tmps.size=n
 defers: ∀d∈a.defers,FB E d
 aL:jL P G w I
theorem RW {E:FuncId→Bool} {G:Nat→V} {n:Nat} {a:Act} {st:St} {o:Oper} {v:Value} {x:V} {hp':Nat→Option af} {ds:List Deferred} (h:iC P E G w I β n a st) (hle:Le P w I β st.hp w' I' β' hp') (hd:w8 o n=true)
  (hv:ai P w' I' β' hp' v x) (oZ: ∀d∈ds,d∈a.defers∨FB E d):iC P E G w' I' β' n ({a with defers:=ds}.put o.dst v) ⟨kU st.sl o.dst x,hp',st.nb⟩:=by
 have hdf: ∀d∈ds,FB E d:=fun d hd=>(oZ d hd).elim (h.defers d) id;cases alP:o.dst with
 | none=>exact ⟨fun k=>(h.sl k).mono hle,h.size,hdf,h.aL.mono hle.eN hle.cZ⟩
 | some d=>
  have bf:d<a.tmps.size:=by
   unfold w8 at hd;rw[alP] at hd;rw[h.size];simpa using hd
  refine ⟨fun k=> ?_,by simp[Act.put,h.size],hdf,h.aL.mono hle.eN hle.cZ⟩;simp only[Act.put,kU,av];cases hb:Nat.beq k d with
  | true=>
   rw[ba] at hb;subst hb;simpa[bf] using hv
  | false=>
   have cm:d≠k:=fun e=>by rw[e,nG] at hb;cases hb
   have:=(h.sl k).mono hle;simpa[Array.getElem?_setIfInBounds_ne cm] using this
theorem aa9 {E:FuncId→Bool} {G:Nat→V} {n:Nat} {a:Act} {st:St} {d:Nat} {b:Bool} (h:iC P E G w I β n a st) (hd:st.sl d= .bool b):a.tmps[d]? =some (.bool b):=by
 have:=h.sl d;rw[hd] at this;have:=this.mY;cases ht:a.tmps[d]? with
 | none=>simp[ht] at this;cases this
 | some v=>simp[ht] at this;rw[this]
theorem alQ {x:V} {b:Bool} (h:o7 x=some (some b)):x= .bool b:=by
 cases x with
 | bool c=>simp only[o7] at h;injection h with h;injection h with h;rw[h]
 | bK vs=>cases vs<;>simp[o7] at h
 | _=>simp[o7] at h
theorem alR {x:V} (h:o7 x=some none):x= .bK []:=by
 cases x with
 | bK vs=>cases vs with
  | nil=>rfl
  | cons _ _=>simp[o7] at h
 | bool c=>simp[o7] at h
 | _=>simp[o7] at h
theorem ai.alS {v:Value} (h:ai P w I β hp v (.bK [])):v= .tuple #[]:=by
 cases h with
 | @bK cs _ hs _=>
  have:cs= #[]:=by
   apply Array.eq_empty_of_size_eq_zero;simpa using hs
  rw[this]
theorem ai.aba:ai P w I β hp Go.undef (.bK []):= .bK (by rfl) (fun j v x _ hx=>by simp at hx)
theorem abb (hC:oP P A C) (hP:lP P A) {ops:Array Oper} {n i nb:Nat} {o:Oper} (ho:ops[i]? =some o) {a:Act} {st st':St} {R W:List Nat} (S:aB P w I β st.hp B M w0) (hA:iC P A.idle A.aL w I β n a st)
  (h:ku P A C n ops i o nb st=some (st',R,W)) {K:Act→World→Prop} {Q:Exit→Act→World→Prop}
  (hK: ∀a' w' I' β',Le P w I β st.hp w' I' β' st'.hp→aB P w' I' β' st'.hp B M w0→iC P A.idle A.aL w' I' β' n a' st'→K a' w'):wpOp P ops Q i K a w:=by
 unfold ku at h;cases hd:w8 o n with
 | false=>rw[hd] at h;cases h
 | true=>
  rw[hd] at h;simp only[cond_true] at h;have go: ∀{RX:St} {R W:List Nat},(((iU P A st.sl i (nb+64*i) o).run C st.hp).bind fun r=>some ((⟨kU st.sl o.dst r.1.v,cB st.hp r.1.upd,st.nb⟩:St),vj r.2 r.1.upd,jl st.hp r.1.upd))=some (RX,R,W)→RX=st'→
    o.wp P a w K Q:=by
   intro RX R W h e;obtain ⟨⟨r,rd⟩,h1,h2⟩:=bind_some h;cases h2;subst e;exact alO hC hP S hA.aL hA.sl h1 K Q fun v w' I' β' ds k1 k2 k3 k4=>hK _ w' I' β' k1 k2 (RW hA k1 hd k3 k4)
  unfold wpOp;rw[ho];simp only;cases hg:o.guard with
  | none=>
   rw[hg] at h;simp only[Region.wanted,hg,kR];exact .inl (go h rfl)
  | some gw=>
   obtain ⟨g,want⟩:=gw;rw[hg] at h;simp only at h;cases pw:(ops[g]?).bind (·.dst) with
   | none=>rw[pw] at h;cases h
   | some d=>
    rw[pw] at h;simp only at h;cases qp:o7 (st.sl d) with
    | none=>rw[qp] at h;cases h
    | some ob=>
    rw[qp] at h;cases ob with
    | none=>
     have BP:=alR qp;have hy:yielded ops a.tmps g=none:=by
      unfold yielded;rw[pw];have:=hA.sl d;rw[BP] at this;have hu:=ai.alS this;simp only[Option.bind_some];cases ht:a.tmps[d]? with
      | none=>rfl
      | some v=>simp[ht] at hu;subst hu;rfl
     simp only[Region.wanted,hg,hy];injection h with h;injection h with h3 h4;subst h3;have h2:((none:Option Bool)==some want)=false:=rfl;simp only[h2,Eb,mi];exact hK _ w I β (Le.refl w I β st.hp) S (RW (ds:=a.defers) hA (Le.refl w I β st.hp) hd ai.aba fun d h=> .inl h)
    | some b=>
    simp only at h;have BP:=alQ qp;have hy:yielded ops a.tmps g=some b:=by
     unfold yielded;rw[pw];simp only[Option.bind_some,aa9 hA BP]
    simp only[Region.wanted,hg,hy];by_cases hb:b=want
    ·subst hb;simp only[beq_self_eq_true,cond_true] at h;simp only[beq_self_eq_true,kR];exact .inl (go h rfl)
    ·have h1:(b==want)=false:=by simp[hb]
     have h2:(some b==some want)=false:=by simp[hb]
     rw[h1] at h;simp only[cond_false] at h;injection h with h;injection h with h3 h4;subst h3;simp only[h2,Eb,mi];exact hK _ w I β (Le.refl w I β st.hp) S (RW (ds:=a.defers) hA (Le.refl w I β st.hp) hd ai.aba fun d h=> .inl h)
def zC (hp hp':Nat→Option af) (c:Nat):Prop:=hp' c=hp c∧(KB≤c→jH (hp' (c-KB))=jH (hp (c-KB)))
theorem zC.symm {c:Nat} (h:zC hp hp' c):zC hp' hp c:=⟨h.1.symm,fun hc=>(h.2 hc).symm⟩
theorem xz {α:Type}: ∀{p:Rd α} {r:α} {rd:List Nat},p.run C hp=some (r,rd)→(∀id∈rd,zC hp hp' id)→p.run C hp'=some (r,rd)
 | .ret a,r,rd,h,_=>h
 | .fail,r,rd,h,_=>by cases h
 | .get id k,r,rd,h,he=>by
  obtain ⟨x,h1,h2⟩:=bind_some h;cases h2;have e1:hp' id=hp id:=(he id (by simp)).1;have:=xz (p:=k (hp id)) (r:=x.1) (rd:=x.2) h1 (fun i hi=>he i (by simp[hi]));simp only[Rd.run,e1,this,Option.bind_some]
 | .live id ok k,r,rd,h,he=>by
  simp only[Rd.run] at h⊢;cases hk:ok (jH (hp id)) with
  | false=>rw[hk] at h;cases h
  | true=>
   rw[hk] at h;obtain ⟨x,h1,h2⟩:=bind_some h;cases h2;have e1:jH (hp' id)=jH (hp id):=by
    have:=(he (id+KB) (by simp)).2 (Nat.le_add_left _ _);rwa [Kn] at this
   have:=xz (p:=k) (r:=x.1) (rd:=x.2) h1 (fun i hi=>he i (by simp[hi]));rw[e1,hk,this];rfl
 | .opt o k,r,rd,h,he=>by
  obtain ⟨x,h1,h2⟩:=bind_some h;simp only[Rd.run,h1,Option.bind_some];exact xz h2 he
 | .aD b k,r,rd,h,he=>by
  obtain ⟨h1,h2⟩:=aH h;simp only[Rd.run,h1,cond_true];exact xz h2 he
 | .call key ds k,r,rd,h,he=>by
  obtain ⟨x,h1,h2⟩:=bind_some h;simp only[Rd.run,h1,Option.bind_some];exact xz h2 he
 | .alt true x y,r,rd,h,he=>xz (p:=x) h he
 | .alt false x y,r,rd,h,he=>xz (p:=y) h he
theorem alT {G:Nat→V} {sl sl':Nat→V} {t:TypeId} {x:Operand} (h: ∀k,x= .tmp k→sl k=sl' k):bd P G t sl x=bd P G t sl' x:=by
 cases x with
 | tmp k=>exact h k rfl
 | _=>rfl
theorem alU {sl sl':Nat→V} {ix nb:Nat} {o:Oper} (h: ∀x∈o.op.operands,∀k,x= .tmp k→sl k=sl' k):iU P A sl ix nb o=iU P A sl' ix nb o:=by
 have iu: ∀t x,x∈o.op.operands→bd P A.aL t sl x=bd P A.aL t sl' x:=fun t x hx=>alT (h x hx);obtain ⟨dst,op,ty,pos,after,guard⟩:=o;have abc: ∀(t:TypeId) (ps:Array (Nat×Operand)),(∀x∈ps.map (·.2),bd P A.aL t sl x=bd P A.aL t sl' x)→
   (ps.toList.map fun p=>(p.1,bd P A.aL t sl p.2))=ps.toList.map fun p=>(p.1,bd P A.aL t sl' p.2):=fun t ps hp=>
  rZ fun p hm=>by rw[hp p.2 (Array.mem_map.2 ⟨p,tA.1 hm,rfl⟩)]
 have alV: ∀(t:TypeId) (ps:Array (Nat×Operand)),(∀x∈ps.map (·.2),bd P A.aL t sl x=bd P A.aL t sl' x)→
   (ps.toList.map fun p=>(bd P A.aL t sl p.2).cells)=ps.toList.map fun p=>(bd P A.aL t sl' p.2).cells:=fun t ps hp=>
  rZ fun p hm=>by rw[hp p.2 (Array.mem_map.2 ⟨p,tA.1 hm,rfl⟩)]
 cases op<;>simp only[Op.operands] at iu<;>simp only[iU]
 case pick c x y=>rw[iu ty c (by simp),iu ty x (by simp),iu ty y (by simp)]
 case build t ps=>rw[abc ty ps fun x hx=>iu ty x (by simpa using hx),alV ty ps fun x hx=>iu ty x (by simpa using hx)]
 case buildSlice t len ps=>
  split
  ·rename_i e _;rw[abc e ps fun x hx=>iu e x (by simpa using hx)]
  ·rfl
 case slice t x lo hi mx=>
  cases mx with
  | some m=>
   have e1:lo.map (bd P A.aL 0 sl)=lo.map (bd P A.aL 0 sl'):=by
    cases lo with
    | none=>rfl
    | some l=>simp only[Option.map_some,iu 0 l (by simp)]
   have e2:hi.map (bd P A.aL 0 sl)=hi.map (bd P A.aL 0 sl'):=by
    cases hi with
    | none=>rfl
    | some l=>simp only[Option.map_some,iu 0 l (by simp)]
   have e3:=iu 0 m (by simp);simp only[iu ty x (by simp),e1,e2,e3]
  | none=>
   have e1:lo.map (bd P A.aL 0 sl)=lo.map (bd P A.aL 0 sl'):=by
    cases lo with
    | none=>rfl
    | some l=>simp only[Option.map_some,iu 0 l (by simp)]
   have e2:hi.map (bd P A.aL 0 sl)=hi.map (bd P A.aL 0 sl'):=by
    cases hi with
    | none=>rfl
    | some l=>simp only[Option.map_some,iu 0 l (by simp)]
   simp only[iu ty x (by simp),e1,e2]
 case call c=>
  obtain ⟨callee,args,argTypes⟩:=c;have zE: ∀t x,x∈args→bd P A.aL t sl x=bd P A.aL t sl' x:=fun t x hx=>iu t x (by simp[Call.operands,hx]);have hl: ∀t (l:List Operand),(∀x∈l,x∈args)→l.map (bd P A.aL t sl)=l.map (bd P A.aL t sl'):=fun t l hl=>rZ fun x hx=>zE t x (hl x hx);have hz:((args.toList.zip argTypes.toList).map fun p=>bd P A.aL p.2 sl p.1)=(args.toList.zip argTypes.toList).map fun p=>bd P A.aL p.2 sl' p.1:=
   rZ fun p hp=>zE p.2 p.1 (tA.1 (List.of_mem_zip hp).1)
  cases callee with
  | invoke r m=>rfl
  | builtin b=>
   have dK: ∀x∈args.toList,∀t,bd P A.aL t sl x=bd P A.aL t sl' x:=fun x hx t=>zE t x (tA.1 hx);have L5: ∀t (l:List Operand),(∀x∈l,∀t,bd P A.aL t sl x=bd P A.aL t sl' x)→l.map (bd P A.aL t sl)=l.map (bd P A.aL t sl'):=fun t l h=>rZ fun x hx=>h x hx t;cases b<;>first|rfl|skip
   case append=>
    dsimp only;generalize args.toList=al at dK
    match al,dK,argTypes.toList with
    | [s,x],dK,[t,u]=>simp only[dK s (by simp),dK x (by simp)]
    | [],_,_=>rfl
    | [_],_,_=>rfl
    | _::_::_::_,_,_=>rfl
    | [_,_],_,[]=>rfl
    | [_,_],_,[_]=>rfl
    | [_,_],_,_::_::_::_=>rfl
   case copy=>
    dsimp only;generalize args.toList=al at dK
    match al,dK,argTypes.toList with
    | [s,x],dK,[t,u]=>simp only[dK s (by simp),dK x (by simp)]
    | [],_,_=>rfl
    | [_],_,_=>rfl
    | _::_::_::_,_,_=>rfl
    | [_,_],_,[]=>rfl
    | [_,_],_,[_]=>rfl
    | [_,_],_,_::_::_::_=>rfl
   case len=>
    dsimp only;generalize args.toList=al at dK
    match al,dK,argTypes.toList with
    | [x],dK,[t]=>simp only[dK x (by simp)]
    | [],_,_=>rfl
    | _::_::_,_,_=>rfl
    | [_],_,[]=>rfl
    | [_],_,_::_::_=>rfl
   case clear=>
    dsimp only;generalize args.toList=al at dK
    match al,dK,argTypes.toList with
    | [x],dK,[t]=>simp only[dK x (by simp)]
    | [],_,_=>rfl
    | _::_::_,_,_=>rfl
    | [_],_,[]=>rfl
    | [_],_,_::_::_=>rfl
   case unsafeSliceData=>
    dsimp only;generalize args.toList=al at dK
    match al,dK with
    | [],_=>rfl
    | [x],dK=>simp only[dK x (by simp)]
    | _::_::_,_=>rfl
   case unsafeString=>
    dsimp only;generalize args.toList=al at dK
    match al,dK,argTypes.toList with
    | [s,x],dK,[t,u]=>simp only[dK s (by simp),dK x (by simp)]
    | [],_,_=>rfl
    | [_],_,_=>rfl
    | _::_::_::_,_,_=>rfl
    | [_,_],_,[]=>rfl
    | [_,_],_,[_]=>rfl
    | [_,_],_,_::_::_::_=>rfl
   case max=>
    dsimp only;generalize args.toList=al at dK
    match al,dK with
    | [],_=>rfl
    | x::l,dK=>simp only[dK x (by simp),L5 ty l (fun y hy=>dK y (by simp[hy]))]
   case min=>
    dsimp only;generalize args.toList=al at dK
    match al,dK with
    | [],_=>rfl
    | x::l,dK=>simp only[dK x (by simp),L5 ty l (fun y hy=>dK y (by simp[hy]))]
  | value f=>
   cases f<;>first|rfl|skip
   ·rename_i t;have ht:sl t=sl' t:=h (.tmp t) (by simp[Op.operands,Call.operands]) t rfl;simp only[hz,ht]
   ·simp only[hz];cases hx:args.toList with
    | nil=>rfl
    | cons x l=>
     cases l with
     | cons _ _=>rfl
     | nil=>simp only[zE ty x (tA.1 (by rw[hx];simp))]
 case defer c=>
  obtain ⟨callee,args,argTypes⟩:=c;cases callee with
  | invoke r m=>rfl
  | builtin b=>rfl
  | value f=>
   cases f<;>first|rfl|skip
   rename_i t;have ht:sl t=sl' t:=h (.tmp t) (by simp[Op.operands,Call.operands]) t rfl;simp only[ht]
 case makeFunc fn a b=>
  cases fn<;>first|rfl|skip
  have e1:a.toList.map (bd P A.aL ty sl)=a.toList.map (bd P A.aL ty sl'):=rZ fun x hx=>iu ty x (by simp[tA.1 hx]);have e2:b.toList.map (bd P A.aL ty sl)=b.toList.map (bd P A.aL ty sl'):=rZ fun x hx=>iu ty x (by simp[tA.1 hx]);dsimp only;rw[e1,e2]
 case makeMap t r=>cases r<;>rfl
 all_goals first
  | rfl
  | (simp[iu];done)
end
section
variable {P:Program} {A:dH} {w w':World} {I I' I2:Nat→Nat→Prop} {μ β β':Nat→Option Nat} {hp hp':Nat→Option af} {C:ae} {B:Nat} {M:Nat→Prop} {w0:Start}
theorem RY {q:Nat×af} {upd:List (Nat×af)} (h:q∈upd):q.1∈jl hp upd:=by
 unfold jl;rw[List.mem_flatMap];refine ⟨q,h,?_⟩;cases Nat.beq (jH (hp q.1)) (jH (some q.2))<;>simp
theorem alW {upd:List (Nat×af)} (h: ∀q∈upd,jH (hp' q.1)=jH (hp q.1)):jl hp' upd=jl hp upd:=by
 unfold jl
 induction upd with
 | nil=>rfl
 | cons q l ih=>
  rw[yH,yH,ih fun x hx=>h x (qP _ hx),h q (by simp)]
theorem abd {c:Nat}: ∀{upd:List (Nat×af)},c∉jl hp upd→zC hp (cB hp upd) c:=fun {upd} h=>by
 refine ⟨B9 fun q hq e=>h (e▸RY hq),fun hc=> ?_⟩
 induction upd with
 | nil=>rfl
 | cons q l ih=>
  have hl:c∉jl hp l:=fun hx=>h (by unfold jl at*;rw[yH];exact List.mem_append_right _ hx);have hq:jH (hp q.1)=jH (some q.2)∨c≠q.1+KB:=by
   cases hb:Nat.beq (jH (hp q.1)) (jH (some q.2)) with
   | true=>exact .inl (D1 hb)
   | false=>
    refine .inr fun e=>h ?_;unfold jl;rw[yH,hb,e];simp
  show jH (av (cB hp l) q.1 (some q.2) (c-KB))=_;simp only[av];cases hb:Nat.beq (c-KB) q.1 with
  | false=>exact ih hl
  | true=>
   have e:=D1 hb;rcases hq with hq|hq
   ·rw[cond_true,e];exact hq.symm
   ·exact absurd (by omega) hq
theorem abe {n i nb:Nat} {ops:Array Oper} {o:Oper} {st st':St} {R W:List Nat} (h:ku P A C n ops i o nb st=some (st',R,W)):
  ∃x upd,st'=⟨kU st.sl o.dst x,cB st.hp upd,st.nb⟩∧W=jl st.hp upd∧∀gf:St,(∀d∈o.looksAt ops,gf.sl d=st.sl d)→(∀id∈R,zC st.hp gf.hp id)→
   ku P A C n ops i o nb gf=some (⟨kU gf.sl o.dst x,cB gf.hp upd,gf.nb⟩,R,W)∧W=jl gf.hp upd:=by
 unfold ku at h;cases hd:w8 o n with
 | false=>rw[hd] at h;cases h
 | true=>
  rw[hd] at h;simp only[cond_true] at h;have go:(((iU P A st.sl i (nb+64*i) o).run C st.hp).bind fun r=>some ((⟨kU st.sl o.dst r.1.v,cB st.hp r.1.upd,st.nb⟩:St),vj r.2 r.1.upd,jl st.hp r.1.upd))=some (st',R,W)→
    ∃x upd,st'=⟨kU st.sl o.dst x,cB st.hp upd,st.nb⟩∧W=jl st.hp upd∧∀gf:St,(∀d∈o.looksAt ops,gf.sl d=st.sl d)→(∀id∈R,zC st.hp gf.hp id)→
     (((iU P A gf.sl i (nb+64*i) o).run C gf.hp).bind fun r=>some ((⟨kU gf.sl o.dst r.1.v,cB gf.hp r.1.upd,gf.nb⟩:St),vj r.2 r.1.upd,jl gf.hp r.1.upd))=some (⟨kU gf.sl o.dst x,cB gf.hp upd,gf.nb⟩,R,W)∧W=jl gf.hp upd:=by
   intro h;obtain ⟨⟨r,rd⟩,h1,h2⟩:=bind_some h;cases h2;refine ⟨r.v,r.upd,rfl,rfl,fun gf hs hh=> ?_⟩;have hw:jl gf.hp r.upd=jl st.hp r.upd:=alW fun q hq=>by
    have:=(hh (q.1+KB) (List.mem_append_right _ (j5.2 ⟨q,hq,rfl⟩))).2 (Nat.le_add_left _ _);rwa [Kn] at this
   rw[alU (sl':=st.sl) fun x hx k hk=> ?_,xz h1 fun c hc=>hh c (List.mem_append_left _ hc)]
   ·refine ⟨?_,hw.symm⟩;rw[Option.bind_some,hw]
   ·subst hk;exact hs k (List.mem_append_left _ (List.mem_filterMap.2 ⟨.tmp k,by simpa using hx,rfl⟩))
  cases hg:o.guard with
  | none=>
   rw[hg] at h;obtain ⟨x,upd,e1,e2,e3⟩:=go h;refine ⟨x,upd,e1,e2,fun gf hs hh=> ?_⟩;unfold ku;simp only[hd,cond_true,hg];exact e3 gf hs hh
  | some gw=>
   obtain ⟨g,want⟩:=gw;rw[hg] at h;simp only at h;cases pw:(ops[g]?).bind (·.dst) with
   | none=>rw[pw] at h;cases h
   | some d=>
    rw[pw] at h;simp only at h;have RZ:d∈o.looksAt ops:=List.mem_append_right _ (by rw[hg];simp[pw]);cases qp:o7 (st.sl d) with
    | none=>rw[qp] at h;cases h
    | some ob=>
    rw[qp] at h;cases ob with
    | none=>
     injection h with h;injection h with h3 h4;injection h4 with h5 h6;subst h5;subst h6;refine ⟨.bK [],[],h3.symm,rfl,fun gf hs hh=> ?_⟩;unfold ku;simp only[hd,cond_true,hg,pw,hs d RZ,qp];exact ⟨rfl,rfl⟩
    | some b=>
    simp only at h;cases hb:b==want with
    | true=>
     rw[hb] at h;obtain ⟨x,upd,e1,e2,e3⟩:=go h;refine ⟨x,upd,e1,e2,fun gf hs hh=> ?_⟩;unfold ku;simp only[hd,cond_true,hg,pw,hs d RZ,qp,hb];exact e3 gf hs hh
    | false=>
     rw[hb] at h;simp only[cond_false] at h;injection h with h;injection h with h3 h4;injection h4 with h5 h6;subst h5;subst h6;refine ⟨.bK [],[],h3.symm,rfl,fun gf hs hh=> ?_⟩;unfold ku;simp only[hd,cond_true,hg,pw,hs d RZ,qp,hb,cond_false];exact ⟨rfl,rfl⟩
theorem abf {sl:Nat→V} {d:Option Nat} {x:V} {k:Nat} (h:d≠some k):kU sl d x k=sl k:=by
 cases d with
 | none=>rfl
 | some d=>exact cK _ _ fun e=>h (by rw[e])
theorem alX {hp:Nat→Option af} {a b:List (Nat×af)} (h: ∀q∈a,∀q'∈b,q.1≠q'.1):cB (cB hp a) b=cB (cB hp b) a:=by
 funext id;by_cases ha: ∃q∈a,q.1=id
 ·have hb: ∀q∈b,q.1≠id:=by
   obtain ⟨q,hq,rfl⟩:=ha;exact fun q' dz e=>h q hq q' dz e.symm
  rw[B9 hb];obtain ⟨q,hq,rfl⟩:=ha;have same: ∀(bX ga:Nat→Option af) (l:List (Nat×af)) (q:Nat×af),q∈l→cB bX l q.1=cB ga l q.1:=by
   intro bX ga l
   induction l with
   | nil=>intro q hq;simp at hq
   | cons p l ih=>
    intro q hq;simp only[cB,av];cases hb:Nat.beq q.1 p.1 with
    | true=>rfl
    | false=>
     simp only[cond_false];refine ih q ((iR.1 hq).resolve_left fun e=> ?_);rw[e,nG] at hb;cases hb
  exact same _ _ a q hq
 ·rw[B9 (hp:=cB hp b) (l:=a) fun q hq e=>ha ⟨q,hq,e⟩];have same: ∀(bX ga:Nat→Option af) (l:List (Nat×af)),bX id=ga id→cB bX l id=cB ga l id:=by
   intro bX ga l he
   induction l with
   | nil=>exact he
   | cons p l ih=>
    simp only[cB,av];cases hb:Nat.beq id p.1 with
    | true=>rfl
    | false=>exact ih
  exact same _ _ b (B9 fun q hq e=>ha ⟨q,hq,e⟩)
structure abg (ops:Array Oper) (o1 o2:Oper) (R1 W1 R2 W2:List Nat):Prop where
 apart:Oper.apart ops o1 o2=true
 w: ∀id∈W1,id∉R2∧id∉W2
 r: ∀id∈R1,id∉W2
theorem alY {n i j nb:Nat} {ops:Array Oper} {o1 o2:Oper} {st lQ gf:St} {R1 W1 R2 W2:List Nat} (h1:ku P A C n ops i o1 nb st=some (lQ,R1,W1)) (h2:ku P A C n ops j o2 nb lQ=some (gf,R2,W2))
  (hi:abg ops o1 o2 R1 W1 R2 W2): ∃L7,ku P A C n ops j o2 nb st=some (L7,R2,W2)∧ku P A C n ops i o1 nb L7=some (gf,R1,W1):=by
 obtain ⟨x1,u1,e1,f1,g1⟩:=abe h1;obtain ⟨x2,u2,e2,f2,g2⟩:=abe h2;obtain ⟨a1,a2,a3⟩:=Oper.apart_spec hi.apart;subst e1;have k2:=g2 st (fun d hd=>by simp only;rw[abf fun e=>a1 d e hd]) fun c hc=>(abd fun hw=>(hi.w c (by rw[f1];exact hw)).1 hc).symm;refine ⟨_,k2.1,?_⟩;rw[(g1 _ (fun d hd=> ?_) (fun c hd=> ?_)).1,e2]
 ·congr 3
  ·funext k;cases hd1:o1.dst with
   | none=>rfl
   | some d1=>
    cases ri:o2.dst with
    | none=>rfl
    | some d2=>
     have cm:d2≠d1:=fun e=>a2 d1 hd1 (by rw[ri,e]);simp only[kU,av];cases E8:Nat.beq k d1<;>cases uh:Nat.beq k d2<;>simp only[cond_true,cond_false];rw[ba] at E8 uh;exact absurd (uh.symm.trans E8) cm
  ·exact (alX fun q hq q' dz e=>(hi.w q.1 (by rw[f1];exact RY hq)).2 (by rw[f2,e];exact RY dz)).symm
 ·simp only;rw[abf fun e=>a3 d e hd]
 ·exact abd fun hw=>hi.r c hd (by rw[k2.2];exact hw)
def Ce (P:Program) (A:dH) (C:ae) (n:Nat) (ops:Array Oper) (nb:Nat):List (Nat×Oper×List Nat×List Nat)→St→St→Prop
 | [],st,st'=>st=st'
 | (i,o,R,W)::l,st,st'=> ∃lQ,ku P A C n ops i o nb st=some (lQ,R,W)∧Ce P A C n ops nb l lQ st'
def zF (x:Nat×Oper×List Nat×List Nat):Nat×List Nat×List Nat:=(x.1,x.2.2.1,x.2.2.2)
theorem abh {n nb:Nat} {ops:Array Oper}: ∀{l:List (Nat×Oper)} {st st':St} {log L8:Log},tG P A C n ops nb l st log=some (st',L8)→
  ∃g,g.map (fun x=>(x.1,x.2.1))=l∧L8=log++g.map zF∧Ce P A C n ops nb g st st'
 | [],st,st',log,L8,h=>by
  cases h;exact ⟨[],rfl,by simp,rfl⟩
 | (i,o)::l,st,st',log,L8,h=>by
  obtain ⟨⟨lQ,R,W⟩,h1,h2⟩:=bind_some h;obtain ⟨g,a,b,c⟩:=abh h2;exact ⟨(i,o,R,W)::g,by simp[a],by simp[b,zF],lQ,h1,c⟩
def abi (ops:Array Oper) (x y:Nat×Oper×List Nat×List Nat):Prop:=abg ops x.2.1 y.2.1 x.2.2.1 x.2.2.2 y.2.2.1 y.2.2.2
theorem abj {n nb:Nat} {ops:Array Oper} {y:Nat×Oper×List Nat×List Nat} {g2:List (Nat×Oper×List Nat×List Nat)}: ∀{g1:List (Nat×Oper×List Nat×List Nat)} {st st':St},
  Ce P A C n ops nb (g1++y::g2) st st'→(∀x∈g1,abi ops x y)→∃lQ,ku P A C n ops y.1 y.2.1 nb st=some (lQ,y.2.2.1,y.2.2.2)∧Ce P A C n ops nb (g1++g2) lQ st'
 | [],st,st',h,_=>h
 | x::g1,st,st',h,hi=>by
  obtain ⟨lQ,h1,h2⟩:=h;obtain ⟨gf,h3,h4⟩:=abj h2 fun z hz=>hi z (qP _ hz);obtain ⟨L7,h5,h6⟩:=alY h1 h3 (hi x (by simp));exact ⟨L7,h5,gf,h6,h4⟩
theorem abk (hC:oP P A C) (hP:lP P A) {n nb:Nat} {ops:Array Oper} {Q:Exit→Act→World→Prop}: ∀{g:List (Nat×Oper×List Nat×List Nat)} {st st':St} {a:Act} {w:World} {I:Nat→Nat→Prop} {β:Nat→Option Nat},
  Ce P A C n ops nb g st st'→(∀x∈g,ops[x.1]? =some x.2.1)→aB P w I β st.hp B M w0→iC P A.idle A.aL w I β n a st→
  (∀a' w' I' β',Le P w I β st.hp w' I' β' st'.hp→aB P w' I' β' st'.hp B M w0→iC P A.idle A.aL w' I' β' n a' st'→Q .normal a' w')→wpOps P ops Q (g.map (·.1)) a w
 | [],st,st',a,w,I,β,h,_,S,hA,hQ=>by
  cases h;exact hQ a w I β (Le.refl w I β _) S hA
 | x::g,st,st',a,w,I,β,h,ho,S,hA,hQ=>by
  obtain ⟨lQ,h1,h2⟩:=h;rw[iS,wpOps_cons];refine abb hC hP (ho x (by simp)) S hA h1 fun a' w' I' β' k1 k2 k3=> ?_;exact abk hC hP h2 (fun y hy=>ho y (qP _ hy)) k2 k3 fun a2 w2 I2 cT m1 m2 m3=>hQ a2 w2 I2 cT (k1.trans m1) m2 m3
end
section
variable {P:Program} {A:dH} {w w':World} {I I' I2:Nat→Nat→Prop} {μ β β':Nat→Option Nat} {hp hp':Nat→Option af} {C:ae} {B:Nat} {M:Nat→Prop} {w0:Start}
inductive zG (ops:Array Oper):Nat→Nat→Prop
 | abl {i x:Nat} {o:Oper} {e:Edge}:ops[i]? =some o→e∈o.after→Region.binds .any e=true→e.on=x→zG ops i x
 | trans {i x:Nat} {o:Oper} {e:Edge}:ops[i]? =some o→e∈o.after→Region.binds .any e=true→zG ops e.on x→zG ops i x
theorem abm {acc:Array Nat} {x:Nat}: ∀{l:List Edge} {s:Nat},(l.foldl (fun s e=>if Region.binds .any e then s|||2^e.on|||acc.getD e.on 0 else s) s).testBit x=true→
  s.testBit x=true∨∃e∈l,Region.binds .any e=true∧(e.on=x∨(acc.getD e.on 0).testBit x=true)
 | [],s,h=> .inl h
 | e::l,s,h=>by
  simp only[List.foldl_cons] at h;rcases abm h with h1|⟨e',a,b⟩
  ·by_cases hb:Region.binds .any e=true
   ·rw[ah hb,Ec,Ec,Bool.or_eq_true,Bool.or_eq_true] at h1;rcases h1 with (h1|h1)|h1
    ·exact .inl h1
    ·rw[yI] at h1;exact .inr ⟨e,by simp,hb,.inl (by simpa using h1)⟩
    ·exact .inr ⟨e,by simp,hb,.inr h1⟩
   ·rw[ag hb] at h1;exact .inl h1
  ·exact .inr ⟨e',qP _ a,b⟩
theorem abn {ops:Array Oper} {x:Nat}: ∀{l:List Oper} {acc:Array Nat},(∀j o,l[j]? =some o→ops[acc.size+j]? =some o)→(∀j,(acc.getD j 0).testBit x=true→zG ops j x)→
  ∀j,((l.foldl (fun acc o=>acc.push (o.after.foldl (fun s e=>if Region.binds .any e then s|||2^e.on|||acc.getD e.on 0 else s) 0)) acc).getD j 0).testBit x=true→zG ops j x
 | [],acc,_,zH,j,h=>zH j h
 | o::l,acc,hl,zH,j,h=>by
  simp only[List.foldl_cons] at h;refine abn (l:=l) ?_ ?_ j h
  ·intro j o' hj;have:=hl (j+1) o' (by simpa using hj);rw[Array.size_push];rwa [show acc.size+1+j=acc.size+(j+1) by omega]
  ·intro k hk;simp only[Bb,Array.getElem?_push] at hk;by_cases R0:k=acc.size
   ·rw[ah R0] at hk;simp only[Option.getD_some] at hk;rw[←Kg] at hk;have ho:=hl 0 o rfl;rw[Nat.add_zero] at ho;rw[R0];have uh:(o.after.toList.foldl (fun s e=>if Region.binds .any e then s|||2^e.on|||acc.getD e.on 0 else s) 0).testBit x=true:=by simpa[Bb] using hk
    rcases abm uh with h0|⟨e,he,hb,h1⟩
    ·simp at h0
    ·rcases h1 with h1|h1
     ·exact .abl ho (tA.1 he) hb h1
     ·exact .trans ho (tA.1 he) hb (zH _ h1)
   ·rw[ag R0] at hk;exact zH k (by simpa[Bb] using hk)
theorem alZ {ops:Array Oper} {i x:Nat} (h:((Region.before ops).getD i 0).testBit x=true):zG ops i x:=by
 unfold Region.before at h;rw[←Kg] at h;refine abn (l:=ops.toList) (acc:= #[]) (fun j o hj=>by simpa using hj) (fun j hj=>by simp at hj) i h
def abo (ops:Array Oper) (listed:Array Bool):Prop:= ∀i o,ops[i]? =some o→listed.getD i false=true→∀e∈o.after,Region.binds .any e=true→listed.getD e.on false=true
theorem al0 {ops:Array Oper} {listed:Array Bool} (hc:abo ops listed) {i x:Nat} (h:zG ops i x) (hi: ∀o,ops[i]? =some o→∀e∈o.after,Region.binds .any e=true→listed.getD e.on false=true):listed.getD x false=true:=by
 induction h with
 | abl ho he hb hx=>rw[←hx];exact hi _ ho _ he hb
 | trans ho he hb _ ih=>exact ih fun o' sr e' BW aA=>hc _ o' sr (hi _ ho _ he hb) e' BW aA
theorem abp: ∀{l:List Oper} {k j:Nat} {o:Oper},Ez k l=true→l[j]? =some o→∀e∈o.after,Region.binds .any e=true→e.on<k+j
 | [],k,j,o,_,h=>by simp at h
 | o'::l,k,j,o,hk,h=>by
  simp only[Ez,aK] at hk;cases j with
  | zero=>
   simp at h;subst h;intro e he hb;have:=gC.1 hk.1 e (tA.2 he);simp[hb] at this;omega
  | succ j=>
   intro e he hb;have:=abp hk.2 (j:=j) (by simpa using h) e he hb;omega
theorem abq {ops:Array Oper} {yU:Array Nat}: ∀{l:Log},KT ops yU l=true→l.Pairwise fun x y=>Ey ops yU x y=true
 | [],_=> .nil
 | x::l,h=>by
  simp only[KT,aK] at h;exact .cons (fun y hy=>gC.1 h.1 y hy) (abq h.2)
theorem abr {listed:Array Bool} {i:Nat} (h:listed.getD i true=false):i<listed.size∧listed.getD i false=false:=by
 rcases fH i listed.size with h'|h'
 ·refine ⟨h',?_⟩;simpa[h'] using h
 ·simp[Array.getElem?_eq_none h'] at h
theorem abt (hC:oP P A C) (hP:lP P A) {n nb:Nat} {ops:Array Oper} {Q:Exit→Act→World→Prop} (L9:Ez 0 ops.toList=true):
  ∀(fuel:Nat) {g:List (Nat×Oper×List Nat×List Nat)} {listed:Array Bool} {st st':St} {a:Act} {w:World} {I:Nat→Nat→Prop} {β:Nat→Option Nat},
  g.length=fuel→Ce P A C n ops nb g st st'→(∀x∈g,ops[x.1]? =some x.2.1)→(g.map (·.1)).Pairwise (· < ·)→(g.map zF).Pairwise (fun x y=>Ey ops (Region.before ops) x y=true)→
  listed.size=ops.size→(∀i,i<ops.size→(listed.getD i false=false↔i∈g.map (·.1)))→abo ops listed→
  aB P w I β st.hp B M w0→iC P A.idle A.aL w I β n a st→
  (∀a' w' I' β',Le P w I β st.hp w' I' β' st'.hp→aB P w' I' β' st'.hp B M w0→iC P A.idle A.aL w' I' β' n a' st'→Q .normal a' w')→wpAny P .any ops Q fuel listed a w
 | 0,g,listed,st,st',a,w,I,β,hf,hr,ho,bf,xA,bw,zI,nY,S,hA,hQ=>by
  obtain rfl:g=[]:=o0 hf;cases hr;refine ⟨?_,hQ a w I β (Le.refl w I β _) S hA⟩;rw[List.eq_nil_iff_forall_not_mem];intro i hi;obtain ⟨h0,_⟩:=mem_ready.1 hi;obtain ⟨h1,h2⟩:=abr h0;have:=(zI i (by omega)).1 h2;simp at this
 | fuel+1,g,listed,st,st',a,w,I,β,hf,hr,ho,bf,xA,bw,zI,nY,S,hA,hQ=>by
  refine ⟨fun FG=> ?_,fun i hi=> ?_⟩
  ·exfalso;cases g with
   | nil=>simp at hf
   | cons x g=>
    have hx:=ho x (by simp);have kE:x.1<ops.size:=(wQ.1 hx).1;have ft:x.1∈Region.ready .any ops listed:=by
     rw[mem_ready];have h0:=(zI x.1 kE).2 (by simp);refine ⟨?_,x.2.1,hx,fun e he hb=> ?_⟩
     ·have hl:x.1<listed.size:=by omega
      simpa[hl] using h0
     ·have Rh:=abp L9 (j:=x.1) (by simpa using hx) e he hb;rw[ed] at Rh;cases hle:listed.getD e.on false with
      | true=>rfl
      | false=>
       have hm:=(zI e.on (by omega)).1 hle;simp only[iS,iR] at hm;rw[iS,yJ] at bf;rcases hm with hm|hm
       ·omega
       ·have:=bf.1 _ hm;omega
    rw[FG] at ft;cases ft
  ·obtain ⟨h0,oi,FI,hed⟩:=mem_ready.1 hi;obtain ⟨h1,h2⟩:=abr h0;have hig:=(zI i (by omega)).1 h2;obtain ⟨y,hy,hyi⟩:=j5.1 hig;obtain ⟨g1,g2,rfl⟩:=List.append_of_mem hy;subst hyi;have hyo:=ho y hy;rw[FI] at hyo;have abu:oi=y.2.1:=ew hyo;have n0:((g1++y::g2).map (·.1)).Nodup:=bf.imp fun h=>D9 h;have al1: ∀x∈g1,abi ops x y:=by
    intro x hx;have hp:Ey ops (Region.before ops) (zF x) (zF y)=true:=by
     rw[qS,iS,List.pairwise_append] at xA;exact xA.2.2 _ (j5.2 ⟨x,hx,rfl⟩) _ (by simp)
    have hxo:=ho x (eW.2 (.inl hx));unfold Ey at hp;rw[Bool.or_eq_true] at hp;rcases hp with hp|hp
    ·have hl:=al0 nY (alZ hp) fun o sr e he hb=>by
      have:o=oi:=by
       have h3:ops[y.1]? =some o:=sr;rw[FI] at h3;exact (ew h3).symm
      subst this;exact hed e he hb
     have kE:x.1<ops.size:=(wQ.1 hxo).1;have:=(zI x.1 kE).2 (j5.2 ⟨x,eW.2 (.inl hx),rfl⟩);rw[show (zF x).1=x.1 from rfl,this] at hl;cases hl
    ·simp only[zF,Bb,hxo,FI,Option.getD_some,aK,nF] at hp;obtain ⟨q1,q2,q3⟩:=hp;refine ⟨abu▸q1,fun id ab=> ?_,fun id ab=>LR q3 ab⟩;have:=LR q2 ab;rw[eW] at this;exact ⟨fun h=>this (.inl h),fun h=>this (.inr h)⟩
   obtain ⟨lQ,kZ,kF⟩:=abj hr al1;rw[←abu] at kZ;refine abb hC hP FI S hA kZ fun a' w' I' β' k1 k2 k3=> ?_;have lf:List.Sublist (g1++g2) (g1++y::g2):=List.Sublist.append_left (List.sublist_cons_self y g2) g1;have sk: ∀j,j≠y.1→(listed.setIfInBounds y.1 true).getD j false=listed.getD j false:=fun j hj=>getD_set_ne false (Ne.symm hj);refine abt hC hP L9 fuel (g:=g1++g2) (st':=st') ?_ kF (fun x hx=>ho x (lf.subset hx)) (bf.sublist (lf.map _)) (xA.sublist (lf.map _)) (by simp[bw]) (fun j hj=> ?_) (fun j o R3 eD e he hb=> ?_) k2 k3 fun a2 w2 I2 cT m1 m2 m3=>hQ a2 w2 I2 cT (k1.trans m1) m2 m3
   ·simp at hf⊢;omega
   ·by_cases tR:j=y.1
    ·subst tR;have hl:y.1<listed.size:=by omega
     simp only[Bb,Array.getElem?_setIfInBounds_self_of_lt hl,Option.getD_some];refine ⟨fun h=>(by cases h),fun h=> ?_⟩;exfalso;rw[qS,iS,Km,List.nodup_cons] at n0;rw[qS,eW] at h;rcases h with h|h
     ·exact n0.2.2 _ h _ (by simp) rfl
     ·exact n0.2.1.1 h
    ·rw[sk j tR,zI j hj];simp only[qS,iS,eW,iR];constructor
     ·rintro (h|h|h)
      ·exact .inl h
      ·exact absurd h tR
      ·exact .inr h
     ·rintro (h|h)
      ·exact .inl h
      ·exact .inr (.inr h)
   ·by_cases tR:j=y.1
    ·subst tR;rw[FI] at R3;cases R3;exact getD_set_true (hed e he hb)
    ·rw[sk j tR] at eD;exact getD_set_true (nY j o R3 eD e he hb)
end
section
variable {P:Program} {A:dH} {w w':World} {I I' I2:Nat→Nat→Prop} {μ β β':Nat→Option Nat} {hp hp':Nat→Option af} {C:ae} {B:Nat} {M:Nat→Prop} {w0:Start}
theorem abv: ∀{l:List Oper} {k j:Nat},(si k l)[j]? =(l[j]?).map fun o=>(k+j,o)
 | [],k,j=>by simp[si]
 | o::l,k,0=>by simp[si]
 | o::l,k,j+1=>by
  simp only[si,List.getElem?_cons_succ,abv];congr 1;funext o;rw[show k+1+j=k+(j+1) by omega]
theorem abw: ∀{l:List Oper} {k:Nat},(si k l).map (·.1)=List.range' k l.length
 | [],k=>rfl
 | o::l,k=>by simp[si,abw,List.range'_succ]
theorem al2 (hC:oP P A C) (hP:lP P A) (hm:P.follows .mixedOrders=true) {n id:Nat} {ops:Array Oper} {draw:Bool} {st st':St} {a:Act} {Q:Exit→Act→World→Prop}
  (h:BD P A C n ops draw st=some st') (S:aB P w I β st.hp B M w0) (hA:iC P A.idle A.aL w I β n a st)
  (hQ: ∀a' w' I' β',Le P w I β st.hp w' I' β' st'.hp→aB P w' I' β' st'.hp B M w0→iC P A.idle A.aL w' I' β' n a' st'→Q .normal a' w'):(Code.region id ops draw).wp P Q a w:=by
 obtain ⟨⟨lQ,log⟩,h1,h2⟩:=bind_some h;obtain ⟨g,g1,g2,g3⟩:=abh h1;have Ma:g.map (·.1)=List.range ops.size:=by
  have:g.map (·.1)=(g.map fun x=>(x.1,x.2.1)).map (·.1):=by simp
  rw[this,g1,abw,List.range_eq_range'];simp
 have FJ: ∀x∈g,ops[x.1]? =some x.2.1:=by
  intro x hx;have:(x.1,x.2.1)∈si 0 ops.toList:=by rw[←g1];exact j5.2 ⟨x,hx,rfl⟩
  obtain ⟨j,hj⟩:=List.mem_iff_getElem?.1 this;rw[abv] at hj;cases ho:ops.toList[j]? with
  | none=>rw[ho] at hj;cases hj
  | some o=>
   rw[ho] at hj;simp only[Option.map_some,ed,eX,mT] at hj;rw[←hj.1,←hj.2];simpa using ho
 cases draw with
 | false=>
  simp only[Bool.not_false,Bool.true_or,cond_true] at h2;cases h2;refine wp_region ?_;rw[←Ma];exact abk hC hP g3 FJ S hA hQ
 | true=>
  simp only[D4,Bool.false_or] at h2;cases hc:(Region.noSelect ops&&EA ops log) with
  | false=>rw[hc] at h2;cases h2
  | true=>
   rw[hc] at h2;cases h2;simp only[aK,EA] at hc;obtain ⟨hns,L9,R4⟩:=hc;simp only[List.nil_append] at g2;refine wp_region_any hm ?_;have hlen:g.length=ops.size:=by
    have:=congrArg List.length Ma;simpa using this
   refine abt hC hP L9 ops.size (g:=g) (st':=st') hlen g3 FJ (by rw[Ma];exact List.pairwise_lt_range) (by rw[←g2];exact abq R4) (by simp) (fun i hi=> ?_) (fun i o ho hl=> ?_)
    (w:=w.drew) S.drew ⟨fun k=>(hA.sl k).mono (Le.drew w I β _),hA.size,hA.defers,hA.aL.mono (Le.drew (P:=P) w I β st.hp).eN (Le.drew (P:=P) w I β st.hp).cZ⟩ fun a' w' I' β' k1 k2 k3=>hQ a' w' I' β' ((Le.drew w I β _).trans k1) k2 k3
   ·rw[Ma];simp[hi]
   ·have hi:=(wQ.1 ho).1;simp[hi] at hl
end
section
variable {P:Program} {A:dH} {E:FuncId→Bool} {G:Nat→V} {w w':World} {I I' I2:Nat→Nat→Prop} {μ β β':Nat→Option Nat} {hp hp':Nat→Option af} {C:ae} {B:Nat} {M:Nat→Prop} {w0:Start}
theorem xB: ∀{l:List Nat} {hp:Nat→Option af} {I:Nat→Nat→Prop},aB P w I β hp B M w0→∃I',Le P w I β hp w I' β (vi hp l)∧aB P w I' β (vi hp l) B M w0
 | [],hp,I,S=>⟨I,Le.refl w I β hp,S⟩
 | id::l,hp,I,S=>by
  simp only[vi];cases ab:hp id with
  | none=>exact xB S
  | some blk=>
   cases blk with
   | dead=>exact xB S
   | out _ _ _ _=>exact xB S
   | var _=>exact xB S
   | map _ _=>exact xB S
   | arr e es fz=>
    obtain ⟨h1,h2⟩:=EP S (upd:=[(id,.arr e es true)]) (fun p hp=>by
     simp only[jF] at hp;subst hp;exact ⟨e,es,rfl,.inl ⟨fz,ab⟩⟩)
    obtain ⟨I',h3,h4⟩:=xB (l:=l) h2;exact ⟨I',h1.trans h3,h4⟩
   | nest e es vers=>
    obtain ⟨h1,h2⟩:=EP S (upd:=[(id,.arr e es true)]) (fun p hp=>by
     simp only[jF] at hp;subst hp;exact ⟨e,es,rfl,.inr ⟨vers,ab⟩⟩)
    obtain ⟨I',h3,h4⟩:=xB (l:=l) h2;exact ⟨I',h1.trans h3,h4⟩
theorem abx {n:Nat} {a:Act} {st:St} (S:aB P w I β st.hp B M w0) (hA:iC P E G w I β n a st):
  ∃I',Le P w I β st.hp w I' β st.hp∧aB P w I' β st.hp B M w0∧iC P E G w I' β n a st∧tK P I' β st.hp:=by
 obtain ⟨I',h1,h2,h3⟩:=Zo S;exact ⟨I',h1,h2,⟨fun k=>(hA.sl k).mono h1,hA.size,hA.defers,hA.aL.mono h1.eN h1.cZ⟩,h3⟩
theorem al3 {hp:Nat→Option af} (S:aB P w I β hp B M w0) (hT:tK P I β hp) {v:Value} {x:V} (hv:ai P w I β hp v x):ai P w I β hp v (KS hp x):=by
 cases x with
 | whole e id=>
  simp only[KS];split
  ·rename_i e' es ab;cases he:Nat.beq e e' with
   | false=>exact hv
   | true=>
    rw[ba] at he;subst he;simp only[cond_true];cases hv with
    | eC h=>grind
    | ee h=>grind
    | eF h=>grind
    | fC h=>grind
    | ej h=>rw[ab] at h;cases h;exact .list (.any fun _=>rfl)
    | whole h hb bw cf hm=>
     rw[ab] at h;cases h;have hr:=S.h.rel id _ ab;cases hr with
     | eZ aA=>grind
     | arr hL aw aA hh hs hf fQ hx=>
      rw[hb] at aA;cases aA;have:=xg (I':=I) (off:=0) (len:=es.length) (o:=0) hh hx (fK aw) (by omega) cf (fun _=>by simp) (fun _ _ h=>h) (hT _ _ _ _ ab hb);exact .list (by grind)
  ·exact hv
 | _=>exact hv
theorem al4 {n:Nat} {a:Act} {st:St} (S:aB P w I β st.hp B M w0) (hA:iC P E G w I β n a st) (p:Nat):
  ∃β',Le P w I β st.hp w I β' (w7 st p).hp∧aB P w I β' (w7 st p).hp B M w0∧iC P E G w I β' n a (w7 st p):=by
 have same: ∃β',Le P w I β st.hp w I β' st.hp∧aB P w I β' st.hp B M w0∧iC P E G w I β' n a st:=⟨β,Le.refl ..,S,hA⟩
 unfold w7;cases Nat.ble (2*KB) p with
 | false=>exact same
 | true=>
  simp only[cond_true];split
  ·rename_i e hn hx;obtain ⟨h1,h2⟩:=QD S (vers:=[0,0,0]) e hn;refine ⟨_,h1,h2,⟨fun k=> ?_,hA.size,hA.defers,hA.aL⟩⟩;show ai P w I (av β st.nb none) (av st.hp st.nb (some (.nest e [] [0,0,0]))) _ (av st.sl (p %KB) (V.whole e st.nb) k);by_cases hk:k=p %KB
   ·subst hk;have hv:=hA.sl (p %KB);rw[hx] at hv;rw[bW];generalize a.tmps.getD (p %KB) _=v at hv⊢;cases hv;exact .eF (bW _ _ _) (bW _ _ _)
   ·rw[cK _ _ hk];exact (hA.sl k).mono h1
  ·rename_i cs hn hx;split
   ·rename_i e hc;obtain ⟨h1,h2⟩:=QD S (vers:=[0,0,0]) e hn;refine ⟨_,h1,h2,⟨fun k=> ?_,hA.size,hA.defers,hA.aL⟩⟩;show ai P w I (av β st.nb none) (av st.hp st.nb (some (.nest e [] [0,0,0]))) _ (av st.sl (p %KB) (V.agg (cs.set (p/KB-2) (.whole e st.nb))) k);by_cases hk:k=p %KB
    ·subst hk;have hv:=hA.sl (p %KB);rw[hx] at hv;rw[bW];generalize a.tmps.getD (p %KB) _=v at hv⊢;obtain ⟨vs,rfl,kZ,kF⟩:=hv.nT;refine .agg (by grind) fun j v x hv oJ=> ?_;by_cases hj:p/KB-2=j
     ·subst hj;have bf:=(cO.1 hc).1;rw[yD bf] at oJ;cases oJ;have zp:=kF _ v _ hv hc;cases zp;exact .eF (vers:=[0,0,0]) (bW _ _ _) (bW _ _ _)
     ·rw[D3 hj] at oJ;exact (kF j v x hv oJ).mono h1
    ·rw[cK _ _ hk];exact (hA.sl k).mono h1
   omega
  ·rename_i id hn hx;split
   ·rename_i T cs ab;split
    ·rename_i e hc;obtain ⟨h1,h2⟩:=QD S (vers:=[0,0,0]) e hn;have cm:id≠st.nb:=fun h=>by grind
     have sE:av st.hp st.nb (some (.nest e [] [0,0,0])) id=some (.var T cs):=by rw[cK _ _ cm];exact ab
     have hr:=h2.h.rel id _ sE;generalize ho:av β st.nb none id=o at hr;cases hr with
     | @var _ b Ca _ hb hh hs hI m8 iY=>
     subst hb;obtain ⟨h3,h4⟩:=ES (w':=w) h2 (blk':= .var T (cs.set (p/KB-2) (.whole e st.nb))) sE (by simp) rfl ho hI (by simp) (fun _ _=>rfl) rfl (az _) ⟨rfl,rfl⟩
      (fun hle=> .var rfl hh (by grind) hI (fun j v x hv oJ=>by
       by_cases hj:p/KB-2=j
       ·subst hj;have bf:=(cO.1 hc).1;rw[yD bf] at oJ;cases oJ;have zp:=m8 _ v _ hv hc;cases zp;exact .eF (vers:=[0,0,0]) (by rw[cK _ _ (Ne.symm cm)];exact bW _ _ _) (bW _ _ _)
       ·rw[D3 hj] at oJ;exact (m8 j v x hv oJ).mono hle) iY)
     exact ⟨_,h1.trans h3,h4,⟨fun k=>(hA.sl k).mono (h1.trans h3),hA.size,hA.defers,hA.aL⟩⟩
    omega
   omega
  omega
theorem aby {n:Nat} {a:Act}: ∀(l:List Nat) {st:St} {β:Nat→Option Nat},aB P w I β st.hp B M w0→iC P E G w I β n a st→
  ∃β',Le P w I β st.hp w I β' (l.foldl w7 st).hp∧aB P w I β' (l.foldl w7 st).hp B M w0∧iC P E G w I β' n a (l.foldl w7 st)
 | [],st,β,S,hA=>⟨β,Le.refl ..,S,hA⟩
 | p::l,st,β,S,hA=>by
  obtain ⟨tQ,h1,h2,h3⟩:=al4 S hA p;obtain ⟨cT,h4,h5,h6⟩:=aby l h2 h3;exact ⟨cT,h1.trans h4,h5,h6⟩
theorem abz {n m:Nat} {pur:List Nat} {a:Act} {st:St} (S:aB P w I β st.hp B M w0) (hA:iC P E G w I β n a st):
  ∃I' β',Le P w I β st.hp w I' β' (freeze m pur st).hp∧aB P w I' β' (freeze m pur st).hp B M w0∧iC P E G w I' β' n a (freeze m pur st):=by
 obtain ⟨I1,h1,h2⟩:=xB (l:=(KR st pur).filter fun id=>Nat.ble m id) S;obtain ⟨I',h3,h4,h5⟩:=Zo h2;have h1:=h1.trans h3;have hA2:iC P E G w I' β n a ⟨fun k=>bif jf pur (k+KB) then KS (vi st.hp ((KR st pur).filter fun id=>Nat.ble m id)) (st.sl k) else st.sl k,vi st.hp ((KR st pur).filter fun id=>Nat.ble m id),st.nb⟩:=by
  refine ⟨fun k=> ?_,hA.size,hA.defers,hA.aL.mono h1.eN h1.cZ⟩;have hv:=(hA.sl k).mono h1;cases hm:jf pur (k+KB) with
  | false=>grind
  | true=>simp only[hm,cond_true];exact al3 h4 h5 hv
 obtain ⟨β',k1,k2,k3⟩:=aby pur h4 hA2;exact ⟨I',β',h1.trans k1,k2,k3⟩
structure Cf (hp:Nat→Option af) (β:Nat→Option Nat) (ord:List Nat) (hp':Nat→Option af) (β':Nat→Option Nat):Prop where
 arr: ∀(j:Nat) id e es fz,ord[j]? =some id→hp id=some (.arr e es fz)→hp' j=some (.arr e es fz)
 var: ∀(j:Nat) id T cs,ord[j]? =some id→hp id=some (.var T cs)→∃ld,hp' j=some (.var T ld)
 dead: ∀(j:Nat) id,ord[j]? =some id→hp id=some .dead→hp' j=some .dead
 out: ∀(j:Nat) id e es vs i,ord[j]? =some id→hp id=some (.out e es vs i)→hp' j=some .dead
 place: ∀(j:Nat) id,ord[j]? =some id→β' j=β id
 nest: ∀(j:Nat) id e es vers,ord[j]? =some id→hp id=some (.nest e es vers)→hp' j=some (.nest e es (vers.map fun _=>0))
 map: ∀(j:Nat) id t es,ord[j]? =some id→hp id=some (.map t es)→hp' j=some (.map t es)
theorem n7: ∀{l:List Nat} {n i j:Nat},j9 l n i=some j→∃k,j=i+k∧l[k]? =some n
 | [],n,i,j,h=>by cases h
 | a::l,n,i,j,h=>by
  simp only[j9] at h;cases hb:Nat.beq n a with
  | true=>
   simp_all
  | false=>
   rw[hb] at h;obtain ⟨k,h1,h2⟩:=n7 h;exact ⟨k+1,by omega,by grind⟩
def oQ (hp':Nat→Option af) (β':Nat→Option Nat) (n:Nat) (bs:List af):Prop:=
 ∀(k:Nat) b,bs[k]? =some b→hp' (n+k)=some b∧β' (n+k)=none
theorem R5: ∀(vers:List Nat) (k:Nat),bM (vers.map fun _=>0) k=0
 | [],_=>rfl
 | _::_,0=>rfl
 | _::vs,k+1=>R5 vs k
theorem abA {e:TypeId} {es:List V} {vers:List Nat} {path:Path} {ver:Nat} (hc:(Nat.blt 0 path.length&&(Nat.ble path.length vers.length&&Nat.beq (bM vers (path.length-1)) ver))=true)
  (h:(af.nest e es vers).vl path ver):False:=by
 simp only[aK,oA,fo,ba] at hc;obtain ⟨h1,h2,h3⟩:=hc;rcases h with h|h|h
 all_goals grind
theorem abB (S:aB P w I β hp B M w0) (hT:tK P I β hp) {ord:List Nat} (hR:Cf hp β ord hp' β') {v:Value} {x:V} (hv:ai P w I β hp v x):ai P w I β' hp' v (ka hp ord x):=by
 cases hv with
 | undef=>exact .undef
 | int=>exact .int
 | bool=>exact .bool
 | str h=>exact .str h
 | list h=>exact .list h
 | nilS=>exact .nilS
 | agg=>exact .undef
 | bK=>exact .undef
 | fg=>exact .fg
 | fn=>exact .undef
 | pref a b c=>exact .pref a b c
 | @eC _ e id ab=>
  simp only[ka];cases bX:j9 ord id 0 with
  | none=>simp only[ab];exact .undef
  | some j=>
   obtain ⟨k,rfl,hk⟩:=n7 bX;exact .eC (hR.dead _ id (by grind) ab)
 | @jJ _ e id off len ab=>
  simp only[ka];cases bX:j9 ord id 0 with
  | none=>simp only[ab];exact .undef
  | some j=>
   obtain ⟨k,rfl,hk⟩:=n7 bX;exact .jJ (hR.dead _ id (by grind) ab)
 | @mr _ id i c ab=>
  simp only[ka];cases bX:j9 ord id 0 with
  | none=>exact .undef
  | some j=>
   obtain ⟨k,rfl,hk⟩:=n7 bX;exact .mr (hR.dead _ id (by grind) ab)
 | @ej e id fz _ ab hb=>
  simp only[ka];cases bX:j9 ord id 0 with
  | none=>
   simp only[ab];cases fz with
   | false=>exact .undef
   | true=>simp only[nG,cond_true];exact .list (.any fun _=>rfl)
  | some j=>
   obtain ⟨k,rfl,hk⟩:=n7 bX;have eO:ord[0+k]? =some id:=by grind
   exact .ej (hR.arr _ id _ _ _ eO ab) ((hR.place _ id eO).trans hb)
 | @whole e id es fz b cap ab hb bw cf hm=>
  simp only[ka];cases bX:j9 ord id 0 with
  | none=>
   simp only[ab];cases fz with
   | false=>exact .undef
   | true=>
    simp only[nG,cond_true];have hr:=S.h.rel id _ ab;cases hr with
    | eZ aA=>grind
    | arr hL aw aA hh hs hf fQ hx=>
     rw[hb] at aA;cases aA;have:=xg (I':=I) (off:=0) (len:=es.length) (o:=0) hh hx (fK aw) (by omega) cf (fun _=>by simp) (fun _ _ h=>h) (hT _ _ _ _ ab hb);exact .list (by grind)
  | some j=>
   obtain ⟨k,rfl,hk⟩:=n7 bX;have eO:ord[0+k]? =some id:=by grind
   exact .whole (hR.arr _ id _ _ _ eO ab) ((hR.place _ id eO).trans hb) bw cf hm
 | @jo e id fz _ ab hb=>
  simp only[ka];cases bX:j9 ord id 0 with
  | none=>
   simp only[ab];cases fz with
   | false=>exact .undef
   | true=>simp only[nG,cond_true];exact .list (by simpa using (lJ.any (P:=P) fun _=>rfl))
  | some j=>
   obtain ⟨k,rfl,hk⟩:=n7 bX;have eO:ord[0+k]? =some id:=by grind
   exact .jo (hR.arr _ id _ _ _ eO ab) ((hR.place _ id eO).trans hb)
 | @sub e id off len es fz b o cap ab hb lK cf ho=>
  simp only[ka];cases bX:j9 ord id 0 with
  | none=>
   simp only[ab];cases fz with
   | false=>exact .undef
   | true=>
    simp only[nG,cond_true];have hr:=S.h.rel id _ ab;cases hr with
    | eZ aA=>grind
    | arr hL aw aA hh hs hf fQ hx=>
     rw[hb] at aA;cases aA;exact .list (xg (I':=I) hh hx (fK aw) lK cf ho (fun _ _ h=>h) (hT _ _ _ _ ab hb))
  | some j=>
   obtain ⟨k,rfl,hk⟩:=n7 bX;have eO:ord[0+k]? =some id:=by grind
   exact .sub (hR.arr _ id _ _ _ eO ab) ((hR.place _ id eO).trans hb) lK cf ho
 | @ptr id i c b blk ab hd hb=>
  simp only[ka];cases bX:j9 ord id 0 with
  | none=>exact .undef
  | some j=>
   obtain ⟨k,rfl,hk⟩:=n7 bX;have eO:ord[0+k]? =some id:=by grind
   cases blk with
   | dead=>grind
   | var T0 cs=>
    obtain ⟨ld,h'⟩:=hR.var _ id T0 cs eO ab;exact .ptr (blk:= .var T0 ld) h' (by simp) ((hR.place _ id eO).trans hb)
   | arr e es fz=>exact .ptr (blk:= .arr e es fz) (hR.arr _ id _ _ _ eO ab) (by simp) ((hR.place _ id eO).trans hb)
   | nest e es vers=>exact .ptr (blk:= .nest e es (vers.map fun _=>0)) (hR.nest _ id _ _ _ eO ab) (by simp) ((hR.place _ id eO).trans hb)
   | map t es=>exact .ptr (blk:= .map t es) (hR.map _ id _ _ eO ab) (by simp) ((hR.place _ id eO).trans hb)
   | out e es vs i=>exact .mr (hR.out _ id _ _ _ _ eO ab)
 | eY=>exact .eY
 | @kX _ t id ab=>
  simp only[ka];cases bX:j9 ord id 0 with
  | none=>exact .undef
  | some j=>
   obtain ⟨k,rfl,hk⟩:=n7 bX;exact .kX (hR.dead _ id (by grind) ab)
 | @cD t id b es ab hb=>
  simp only[ka];cases bX:j9 ord id 0 with
  | none=>exact .undef
  | some j=>
   obtain ⟨k,rfl,hk⟩:=n7 bX;have eO:ord[0+k]? =some id:=by grind
   exact .cD (hR.map _ id _ _ eO ab) ((hR.place _ id eO).trans hb)
 | @fC e id i es vers b cap ab hb bw cf hm=>
  simp only[ka];cases bX:j9 ord id 0 with
  | none=>simp only[ab];exact .undef
  | some j=>
   obtain ⟨k,rfl,hk⟩:=n7 bX;exact .eC (hR.out _ id _ _ _ _ (by grind) ab)
 | @eF e id vers _ ab hb=>
  simp only[ka];cases bX:j9 ord id 0 with
  | none=>simp only[ab];exact .undef
  | some j=>
   obtain ⟨k,rfl,hk⟩:=n7 bX;have eO:ord[0+k]? =some id:=by grind
   exact .eF (hR.nest _ id _ _ _ eO ab) ((hR.place _ id eO).trans hb)
 | @ee e id es vers b cap ab hb bw cf hm=>
  simp only[ka];cases bX:j9 ord id 0 with
  | none=>simp only[ab];exact .undef
  | some j=>
   obtain ⟨k,rfl,hk⟩:=n7 bX;have eO:ord[0+k]? =some id:=by grind
   exact .ee (hR.nest _ id _ _ _ eO ab) ((hR.place _ id eO).trans hb) bw cf hm
 | @mu v e id ver path blk ab EO=>
  simp only[ka];split
  ·rename_i j e1 dD vers h1 h2;rw[ab] at h2;cases h2;cases hc:(Nat.blt 0 path.length&&(Nat.ble path.length vers.length&&Nat.beq (bM vers (path.length-1)) ver)) with
   | false=>exact .undef
   | true=>exact (abA hc EO).elim
  ·exact .undef
 | @mw v id ver i c path blk ab EO=>
  simp only[ka];split
  ·rename_i j e1 dD vers h1 h2;rw[ab] at h2;cases h2;cases hc:(Nat.blt 0 path.length&&(Nat.ble path.length vers.length&&Nat.beq (bM vers (path.length-1)) ver)) with
   | false=>exact .undef
   | true=>exact (abA hc EO).elim
  ·exact .undef
 | @row v e e0 t id ver b i c q es l vers ab hb hq hv ht hc=>
  simp only[ka];split
  ·rename_i j e1 dD xh h1 h2;obtain ⟨k,rfl,hk⟩:=n7 h1;have eO:ord[0+k]? =some id:=by grind
   cases hx:(Nat.blt 0 (q++[(i,c)]).length&&(Nat.ble (q++[(i,c)]).length xh.length&&Nat.beq (bM xh ((q++[(i,c)]).length-1)) ver)) with
   | false=>exact .undef
   | true=>exact .row (hR.nest _ id _ _ _ eO ab) ((hR.place _ id eO).trans hb) (by grind) (R5 _ _) ht hc
  ·exact .undef
 | @dS e e0 t id ver b b1 len cap i0 c0 i c q es l vers ab hb hq hv ht my hc=>
  simp only[ka];split
  ·rename_i j e1 dD xh h1 h2;obtain ⟨k,rfl,hk⟩:=n7 h1;have eO:ord[0+k]? =some id:=by grind
   cases hx:(Nat.blt 0 (q++[(i0,c0)]).length&&(Nat.ble (q++[(i0,c0)]).length xh.length&&Nat.beq (bM xh ((q++[(i0,c0)]).length-1)) ver)) with
   | false=>exact .undef
   | true=>exact .dS (hR.nest _ id _ _ _ eO ab) ((hR.place _ id eO).trans hb) (by grind) (R5 _ _) ht my hc
  ·exact .undef
theorem abC (S:aB P w I β hp B M w0) (hT:tK P I β hp) {ord:List Nat} (hR:Cf hp β ord hp' β') {vs:Array Value} {xs:List V} (h: ∀(j:Nat) v x,vs[j]? =some v→xs[j]? =some x→ai P w I β hp v x) (j:Nat) (v:Value) (y:V)
  (hv:vs[j]? =some v) (hy:(xs.map (ka hp ord))[j]? =some y):ai P w I β' hp' v y:=by
 rw[gD] at hy;cases hx:xs[j]? with
 | none=>grind
 | some x=>rw[hx] at hy;cases hy;exact abB S hT hR (h j v x hv hx)
theorem abD (S:aB P w I β hp B M w0) (hT:tK P I β hp) {ord:List Nat} (hR:Cf hp β ord hp' β') {n:Nat} {v:Value} {x:V} (hv:ai P w I β hp v x) (hF:oQ hp' β' n (BB hp ord n x).2):
  ai P w I β' hp' v (BB hp ord n x).1:=by
 cases x with
 | nilS e=>
  obtain ⟨h1,h2⟩:=hF 0 _ rfl;cases hv with
  | nilS=>exact .ej h1 h2
 | fn f a b=>
  cases hv with
  | fn q1 q2 q3 q4=>exact .fn (by grind) (abC S hT hR q2) (by grind) (abC S hT hR q4)
 | _=>exact abB S hT hR hv
end
section
variable {P:Program} {A:dH} {w w':World} {I I' I2:Nat→Nat→Prop} {μ β β':Nat→Option Nat} {hp hp':Nat→Option af} {C:ae} {B:Nat} {M:Nat→Prop} {w0:Start}
theorem oQ.left {n:Nat} {a b:List af} (h:oQ hp' β' n (a++b)):oQ hp' β' n a:=fun k x hx=>
 h k x (by rw[o5 (cO.1 hx).1];exact hx)
theorem oQ.right {n:Nat} {a b:List af} (h:oQ hp' β' n (a++b)):oQ hp' β' (n+a.length) b:=fun k x hx=>by
 have:=h (a.length+k) x (by rw[oB (by omega),Kk];exact hx);rwa [←Bc] at this
def qq (bs:List af):Prop:= ∀b∈bs,∃e,b= .arr e [] false
theorem qq.app {a b:List af} (h1:qq a) (h2:qq b):qq (a++b):=fun x hx=>(eW.1 hx).elim (h1 x) (h2 x)
theorem qq.nil:qq []:=fun x hx=>by simp at hx
theorem abE {ord:List Nat} {n:Nat} {x:V}:qq (BB hp ord n x).2:=by
 cases x<;>simp only[BB]<;>first|exact .nil|skip
 intro b hb;simp only[jF] at hb;exact ⟨_,hb⟩
theorem R6 {ord:List Nat}: ∀{xs:List V} {n:Nat},qq (qY hp ord n xs).2
 | [],n=> .nil
 | x::xs,n=>by
  simp only[qY];exact abE.app R6
theorem Mb {ord:List Nat}: ∀{xs:List V} {n:Nat},(qY hp ord n xs).1.length=xs.length
 | [],n=>rfl
 | x::xs,n=>by simp only[qY,List.length_cons,Mb]
theorem Mc (S:aB P w I β hp B M w0) (hT:tK P I β hp) {ord:List Nat} (hR:Cf hp β ord hp' β'): ∀{xs:List V} {vs:List Value} {n:Nat},(∀(j:Nat) v x,vs[j]? =some v→xs[j]? =some x→ai P w I β hp v x)→
  oQ hp' β' n (qY hp ord n xs).2→∀(j:Nat) v y,vs[j]? =some v→(qY hp ord n xs).1[j]? =some y→ai P w I β' hp' v y
 | [],vs,n,h,hF,j,v,y,hv,hy=>by simp[qY] at hy
 | x::xs,vs,n,h,hF,j,v,y,hv,hy=>by
  simp only[qY] at hF hy;cases j with
  | zero=>
   simp at hy;subst hy;exact abD S hT hR (h 0 v x hv rfl) hF.left
  | succ j=>
   cases vs with
   | nil=>simp at hv
   | cons v0 vs=>exact Mc S hT hR (vs:=vs) (fun j v x hj hx=>h (j+1) v x (by simpa using hj) (by simpa using hx)) hF.right j v y (by simpa using hv) (by simpa using hy)
theorem al5 {ord:List Nat} {n:Nat} {x:V}:qq (vh hp ord n x).2:=by
 cases x<;>simp only[vh]<;>first|exact abE|exact R6
theorem al6 (S:aB P w I β hp B M w0) (hT:tK P I β hp) {ord:List Nat} (hR:Cf hp β ord hp' β') {n:Nat} {v:Value} {x:V} (hv:ai P w I β hp v x) (hF:oQ hp' β' n (vh hp ord n x).2):
  ai P w I β' hp' v (vh hp ord n x).1:=by
 cases x with
 | agg cs=>
  obtain ⟨ds,rfl,h1,h2⟩:=hv.nT;simp only[vh] at hF⊢;exact .agg (by rw[Mb];exact h1) fun j v y hj hy=>Mc S hT hR (vs:=ds.toList) (fun j v x hj hx=>h2 j v x (by simpa using hj) hx) hF j v y (by simpa using hj) hy
 | bK cs=>
  obtain ⟨ds,rfl,h1,h2⟩:=hv.zb;simp only[vh] at hF⊢;exact .bK (by rw[Mb];exact h1) fun j v y hj hy=>Mc S hT hR (vs:=ds.toList) (fun j v x hj hx=>h2 j v x (by simpa using hj) hx) hF j v y (by simpa using hj) hy
 | _=>exact abD S hT hR hv hF
theorem abF {ord:List Nat} {sl:Nat→V}: ∀{l:List Nat} {n:Nat},qq (pc hp ord sl n l).2
 | [],n=> .nil
 | s::l,n=>by
  simp only[pc];exact al5.app abF
theorem abG {ord:List Nat} {sl:Nat→V} {k:Nat} {y:V}: ∀{l:List Nat} {n:Nat},oQ hp' β' n (pc hp ord sl n l).2→fI (pc hp ord sl n l).1 k=some y→
  ∃n',oQ hp' β' n' (vh hp ord n' (sl k)).2∧y=(vh hp ord n' (sl k)).1
 | [],n,_,h=>by cases h
 | s::l,n,hF,h=>by
  simp only[pc] at hF h;simp only[fI] at h;cases hb:Nat.beq k s with
  | true=>
   rw[hb] at h;rw[ba] at hb;subst hb;cases h;exact ⟨n,hF.left,rfl⟩
  | false=>
   rw[hb] at h;exact abG hF.right h
theorem al7 {ord:List Nat} {n id:Nat}:qq (gn hp ord n id).2:=by
 unfold gn;split
 ·exact R6
 ·exact .nil
 ·exact .nil
 ·exact .nil
 ·exact .nil
theorem abH {ord:List Nat}: ∀{l:List Nat} {n:Nat},qq (iW hp ord n l).2
 | [],n=> .nil
 | s::l,n=>by
  simp only[iW];exact al7.app abH
theorem abI {ord:List Nat}: ∀{l:List Nat} {n:Nat},(iW hp ord n l).1.length=l.length
 | [],n=>rfl
 | x::xs,n=>by simp only[iW,List.length_cons,abI]
theorem abJ {ord:List Nat}: ∀{l:List Nat} {n j:Nat} {id:Nat},l[j]? =some id→∃n',(oQ hp' β' n (iW hp ord n l).2→oQ hp' β' n' (gn hp ord n' id).2)∧(iW hp ord n l).1[j]? =some (gn hp ord n' id).1
 | [],n,j,id,h=>by simp at h
 | s::l,n,j,id,h=>by
  simp only[iW];cases j with
  | zero=>
   simp at h;subst h;exact ⟨n,fun hF=>hF.left,rfl⟩
  | succ j=>
   obtain ⟨n',h1,h2⟩:=abJ (n:=n+(gn hp ord n s).2.length) (j:=j) (by simpa using h);exact ⟨n',fun hF=>h1 hF.right,by simpa using h2⟩
theorem FK: ∀{l acc:List Nat},∃t,w6 hp acc l=acc++t∧(acc.Nodup→(acc++t).Nodup)
 | [],acc=>⟨[],by simp[w6],by simp⟩
 | id::l,acc=>by
  simp only[w6];cases hb:(jf acc id|| !(Qq hp id)) with
  | true=>exact FK
  | false=>
   obtain ⟨t,h1,h2⟩:=FK (l:=l) (acc:=acc++[id]);refine ⟨id::t,by simp only[cond_false,h1,fN,List.singleton_append],fun hn=> ?_⟩;have:acc++id::t=(acc++[id])++t:=by simp
   rw[this];refine h2 ?_;rw[Km];refine ⟨hn,by simp,fun a ha b aA=> ?_⟩;simp only[jF] at aA;subst aA;intro e;subst e;rw[BM ha] at hb;cases hb
theorem abK: ∀{n:Nat} {l:List Nat},∃t,grow hp n l=l++t∧(l.Nodup→(l++t).Nodup)
 | 0,l=>⟨[],by simp[grow],by simp⟩
 | n+1,l=>by
  simp only[grow];obtain ⟨t,h1,h2⟩:=FK (hp:=hp) (acc:=l) (l:=l.flatMap (Ex hp));rw[h1];obtain ⟨t',h3,h4⟩:=abK (n:=n) (l:=l++t);exact ⟨t++t',by rw[h3,fN],fun hn=>by rw[←fN];exact h4 (h2 hn)⟩
theorem al8 {m:Nat} {live:List Nat} {st:St}: ∃t,Qr m live st=List.range m++t∧(List.range m++t).Nodup:=by
 unfold Qr;obtain ⟨t,h1,h2⟩:=FK (hp:=st.hp) (acc:=List.range m) (l:=live.flatMap fun s=>Ew (st.sl s));rw[h1];obtain ⟨t',h3,h4⟩:=abK (hp:=st.hp) (n:=3) (l:=List.range m++t);rw[h3];obtain ⟨t2,h5,h6⟩:=FK (hp:=Zf st.hp) (acc:=List.range m++t++t') (l:=live.flatMap fun s=>bif Nat.ble KB s then (Ew (st.sl (s-KB))).flatMap (Ex st.hp) else []);exact ⟨t++t'++t2,by rw[h5];simp only[fN],by simp only[←fN];exact h6 (h4 (h2 List.nodup_range))⟩
end
section
variable {P:Program} {A:dH} {E:FuncId→Bool} {G:Nat→V} {w w':World} {I I' I2:Nat→Nat→Prop} {μ β β':Nat→Option Nat} {hp hp' hp0:Nat→Option af} {C:ae} {B:Nat} {M:Nat→Prop} {w0:Start}
def zJ (hp0:Nat→Option af):Prop:= ∀id e es vers,(hp0 id=some (.nest e es vers)∨∃i,hp0 id=some (.out e es vers i))→∀k,bM vers k=0
theorem abL {n m:Nat} {ord live:List Nat} {a:Act} {st:St} (rh:ord.Nodup) (FL: ∀id,id<m→ord[id]? =some id∨∃p,ord[id]? =some p∧st.hp p=none) (S:aB P w I β st.hp B M w0) (hT:tK P I β st.hp) (hA:iC P E G w I β n a st) (hE:oO w0.w w0.I μ hp0 w I β st.hp) (hm: ∀id blk,hp0 id=some blk→id<m) (lR:zJ hp0):
  ∃β',aB P w I β' (BC ord live st).hp B M w0∧iC P E G w I β' n a (BC ord live st)∧oO w0.w w0.I μ hp0 w I β' (BC ord live st).hp:=by
 have al9:BC ord live st=mk (pc st.hp ord st.sl (ord.length+(iW st.hp ord ord.length ord).2.length) live).1
   ((iW st.hp ord ord.length ord).1++((iW st.hp ord ord.length ord).2++(pc st.hp ord st.sl (ord.length+(iW st.hp ord ord.length ord).2.length) live).2)):=by
  rfl
 rw[al9]
 let hp':=mW ((iW st.hp ord ord.length ord).1++((iW st.hp ord ord.length ord).2++(pc st.hp ord st.sl (ord.length+(iW st.hp ord ord.length ord).2.length) live).2))
 let β':Nat→Option Nat:=fun j=>if j<ord.length then (ord[j]?).bind β else none
 have hlen:(iW st.hp ord ord.length ord).1.length=ord.length:=abI;have lj: ∀j,j<ord.length→hp' j=(iW st.hp ord ord.length ord).1[j]? :=by
  intro j hj;simp only[hp',kG];rw[o5 (by omega)]
 have kg: ∀k,hp' (ord.length+k)=((iW st.hp ord ord.length ord).2++(pc st.hp ord st.sl (ord.length+(iW st.hp ord ord.length ord).2.length) live).2)[k]? :=by
  intro k;simp only[hp',kG];rw[oB (by omega),hlen,Kk]
 have hF:oQ hp' β' ord.length ((iW st.hp ord ord.length ord).2++(pc st.hp ord st.sl (ord.length+(iW st.hp ord ord.length ord).2.length) live).2):=by
  intro k b hb;refine ⟨(kg k).trans hb,?_⟩;simp only[β'];rw[cl]
 have FG:qq ((iW st.hp ord ord.length ord).2++(pc st.hp ord st.sl (ord.length+(iW st.hp ord ord.length ord).2.length) live).2):=abH.app abF;have sP: ∀(j:Nat) id,ord[j]? =some id→β' j=β id:=by
  intro j id hj;simp only[β'];rw[ah (cO.1 hj).1,hj];rfl
 have ui: ∀(j:Nat) id,ord[j]? =some id→∃n',oQ hp' β' n' (gn st.hp ord n' id).2∧hp' j=some (gn st.hp ord n' id).1:=by
  intro j id hj;obtain ⟨n',h1,h2⟩:=abJ (hp:=st.hp) (hp':=hp') (β':=β') (ord:=ord) (n:=ord.length) hj;exact ⟨n',h1 hF.left,(lj j (cO.1 hj).1).trans h2⟩
 have hR:Cf st.hp β ord hp' β':=by
  refine ⟨fun j id e es fz hj ab=> ?_,fun j id T cs hj ab=> ?_,fun j id hj ab=> ?_,fun j id e es vs i hj ab=> ?_,sP,fun j id e es vers hj ab=> ?_,fun j id t es hj ab=> ?_⟩
  ·obtain ⟨n',_,h2⟩:=ui j id hj;rw[h2];simp only[gn,ab]
  ·obtain ⟨n',_,h2⟩:=ui j id hj;rw[h2];simp only[gn,ab];exact ⟨_,rfl⟩
  ·obtain ⟨n',_,h2⟩:=ui j id hj;rw[h2];simp only[gn,ab]
  ·obtain ⟨n',_,h2⟩:=ui j id hj;rw[h2];simp only[gn,ab]
  ·obtain ⟨n',_,h2⟩:=ui j id hj;rw[h2];simp only[gn,ab]
  ·obtain ⟨n',_,h2⟩:=ui j id hj;rw[h2];simp only[gn,ab]
 have cls: ∀j blk',hp' j=some blk'→(∃id,ord[j]? =some id∧((blk'= .dead)∨∃blk,st.hp id=some blk∧blk≠ .dead∧∀o b,bB P w o blk' b→bB P w o blk b))∨(∃e,blk'= .arr e [] false∧β' j=none):=by
  intro j blk' hj;rcases fH j ord.length with h|h
  ·have jM:=cp h;obtain ⟨n',_,h2⟩:=ui j _ jM;rw[hj] at h2;refine .inl ⟨_,jM,?_⟩;cases ab:st.hp ord[j] with
   | none=>left;simp only[gn,ab] at h2;exact ew h2
   | some blk=>
    cases blk with
    | dead=>left;simp only[gn,ab] at h2;exact ew h2
    | out _ _ _ _=>left;simp only[gn,ab] at h2;exact ew h2
    | var T0 cs=>exact .inr ⟨_,rfl,by simp,fun o b h=>by simp only[gn,ab] at h2;rw[ew h2] at h;exact .root (by simp) (h.flat (by simp))⟩
    | arr e es fz=>exact .inr ⟨_,rfl,by simp,fun o b h=>by simp only[gn,ab] at h2;rw[ew h2] at h;exact .root (by simp) (h.flat (by simp))⟩
    | map t es=>exact .inr ⟨_,rfl,by simp,fun o b h=>by simp only[gn,ab] at h2;rw[ew h2] at h;exact .root (by simp) (h.flat (by simp))⟩
    | nest e es vers=>
     refine .inr ⟨_,rfl,by simp,fun o b h=> ?_⟩;simp only[gn,ab] at h2;rw[ew h2] at h;cases h with
     | root _ h=>exact .root (by simp) h
     | row h1 h2=>exact .row h1 h2
  ·obtain ⟨k,rfl⟩: ∃k,j=ord.length+k:=⟨j-ord.length,by omega⟩
   rw[kg] at hj;obtain ⟨e,he⟩:=FG _ (mR hj);exact .inr ⟨e,he,(hF k _ hj).2⟩
 refine ⟨β',⟨⟨fun j blk' hj=> ?_,fun j1 j2 b1 b2 b e1 e2 f1 f2=> ?_,fun j blk b e1 f1=> ?_,S.h.jK⟩,S.cZ,S.size,S.new,S.io⟩,⟨fun k=> ?_,hA.size,hA.defers,hA.aL⟩,⟨hE.eN,hE.cZ,fun id blk ab=> ?_,fun id blk blk' b ab cg hd hb=> ?_⟩⟩
 ·change hp' j=some blk' at hj;rcases fH j ord.length with h|h
  ·have jM:=cp h;obtain ⟨n',hF',h2⟩:=ui j _ jM;rw[hj] at h2;rw[sP j _ jM];cases ab:st.hp ord[j] with
   | none=>simp only[gn,ab] at h2;rw[ew h2];exact .dead
   | some blk=>
    have hr:=S.h.rel _ _ ab;generalize β ord[j]=o at hr;cases hr with
    | dead=>simp only[gn,ab] at h2;rw[ew h2];exact .dead
    | out=>simp only[gn,ab] at h2;rw[ew h2];exact .dead
    | eZ hb=>simp only[gn,ab] at h2;rw[ew h2];exact .eZ hb
    | arr a0 a1 a2 a3 a4 a5 a6 a7=>simp only[gn,ab] at h2;rw[ew h2];exact .arr a0 a1 a2 a3 a4 a5 a6 a7
    | nest a1 a2 a3=>simp only[gn,ab] at h2;rw[ew h2];exact .nest a1 a2 a3
    | iM a1=>simp only[gn,ab] at h2;rw[ew h2];exact .iM a1
    | map a1 a2 a3 a4 a5 a6 a7=>simp only[gn,ab] at h2;rw[ew h2];exact .map a1 a2 a3 a4 a5 a6 a7
    | @var xs b Ca T hb hh hs dI hx iY=>
     simp only[gn,ab] at h2 hF';rw[ew h2];exact .var hb hh (by rw[Mb];exact hs) dI (fun i v y hi hy=>Mc S hT hR (vs:=Ca.toList) (fun i v x hi dy=>hx i v x (by simpa using hi) dy) hF' i v y (by simpa using hi) hy) iY
  ·rcases cls j blk' hj with ⟨id,ab,_⟩|⟨e,he,hb⟩
   ·have:=(cO.1 ab).1;omega
   ·rw[he];exact .eZ hb
 ·rcases cls j1 b1 e1 with ⟨R7,o1,x1⟩|⟨e,_,hb⟩
  ·rcases cls j2 b2 e2 with ⟨bD,o2,x2⟩|⟨e,_,hb⟩
   ·obtain ⟨c1,y1,z1,g1⟩:=x1.resolve_left f1.alive;obtain ⟨c2,y2,z2,g2⟩:=x2.resolve_left f2.alive;rw[sP _ _ o1] at f1;rw[sP _ _ o2] at f2;have:=S.h.inj R7 bD c1 c2 b y1 y2 (g1 _ _ f1) (g2 _ _ f2);subst this;obtain ⟨q1,q2⟩:=cO.1 o1;obtain ⟨q3,q4⟩:=cO.1 o2;exact (List.getElem_inj rh).1 (q2.trans q4.symm)
   ·subst ‹b2=_›;have:=f2.flat (by simp);rw[hb] at this;cases this
  ·subst ‹b1=_›;have:=f1.flat (by simp);rw[hb] at this;cases this
 ·rcases cls j blk e1 with ⟨R7,o1,x1⟩|⟨e,_,hb⟩
  ·obtain ⟨c1,y1,z1,g1⟩:=x1.resolve_left f1.alive;rw[sP _ _ o1] at f1;exact S.h.own R7 c1 b y1 (g1 _ _ f1)
  ·subst ‹blk=_›;have:=f1.flat (by simp);rw[hb] at this;cases this
 ·change ai P w I β' hp' (a.tmps.getD k undef) (mq _ k);unfold mq;cases RJ:fI (pc st.hp ord st.sl (ord.length+(iW st.hp ord ord.length ord).2.length) live).1 k with
  | none=>exact .undef
  | some y=>
   obtain ⟨n',h1,h2⟩:=abG hF.right RJ;simp only[Option.getD_some,h2];exact al6 S hT hR (hA.sl k) h1
 ·obtain ⟨vG,k1,k2,k3⟩:=hE.blk id blk ab;rcases FL id (hm id blk ab) with ho|⟨p,ho,bX⟩
  ·cases vG with
   | dead=>exact ⟨.dead,hR.dead id id ho k1,k2,fun h=>absurd rfl h⟩
   | out e es vs i=>exact ⟨.dead,hR.out id id _ _ _ _ ho k1,by cases blk<;>trivial,fun h=>absurd rfl h⟩
   | var T0 cs=>
    obtain ⟨ld,h'⟩:=hR.var id id T0 cs ho k1;refine ⟨_,h',?_,fun _=>(sP id id ho).trans (k3 (by simp))⟩;cases blk<;>simp_all [af.le]
   | arr e es fz=>exact ⟨_,hR.arr id id e es fz ho k1,k2,fun _=>(sP id id ho).trans (k3 (by simp))⟩
   | map t es=>exact ⟨_,hR.map id id t es ho k1,k2,fun _=>(sP id id ho).trans (k3 (by simp))⟩
   | nest e es vers=>
    refine ⟨_,hR.nest id id e es vers ho k1,?_,fun _=>(sP id id ho).trans (k3 (by simp))⟩;rcases af.Zj k2 with ⟨RN,ama,rfl,l1,l2,_⟩|⟨RN,ama,i0,rfl,l1,l2,_⟩
    ·exact ⟨rfl,l1,by simpa using l2,fun k=>by rw[lR id _ _ _ (.inl ab) k];exact nH _⟩
    ·exact ⟨rfl,l1,by simpa using l2,fun k=>by rw[lR id _ _ _ (.inr ⟨_,ab⟩) k];exact nH _⟩
  ·obtain ⟨n',_,h2⟩:=ui id p ho;simp only[gn,bX] at h2;exact ⟨.dead,h2,by cases blk<;>trivial,fun h=>absurd rfl h⟩
 ·obtain ⟨vG,k1,k2,k3⟩:=hE.blk id blk ab;rcases FL id (hm id blk ab) with ho|⟨p,ho,bX⟩
  ·refine hE.size id blk vG b ab k1 (fun vJ=> ?_) hb;subst vJ;have:=hR.dead id id ho k1;change hp' id=some blk' at cg;rw[this] at cg;exact hd (ew cg).symm
  ·obtain ⟨n',_,h2⟩:=ui id p ho;simp only[gn,bX] at h2;change hp' id=some blk' at cg;rw[h2] at cg;exact absurd (ew cg).symm hd
theorem amb {n m:Nat} {live:List Nat} {a:Act} {st:St} (S:aB P w I β st.hp B M w0) (hT:tK P I β st.hp) (hA:iC P E G w I β n a st) (hE:oO w0.w w0.I μ hp0 w I β st.hp) (hm: ∀id blk,hp0 id=some blk→id<m) (lR:zJ hp0):
  ∃β',aB P w I β' (canon m live st).hp B M w0∧iC P E G w I β' n a (canon m live st)∧oO w0.w w0.I μ hp0 w I β' (canon m live st).hp:=by
 obtain ⟨t,FL,rh⟩:=al8 (m:=m) (live:=live) (st:=st);refine abL (by rw[FL];exact rh) (fun id bf=> .inl ?_) S hT hA hE hm lR;rw[FL,o5 (by simpa using bf)];simp[bf]
theorem abM: ∀{l:List Nat},sh l=true→l.Nodup
 | [],_=> .nil
 | a::l,h=>by
  simp only[sh,aK,nF] at h;rw[List.nodup_cons];exact ⟨fun hm=>Bool.noConfusion ((BM hm).symm.trans h.1),abM h.2⟩
theorem amc {m:Nat} {mv:List Nat} {id:Nat} (h:id<m):(qe m mv)[id]? =some id∨(qe m mv)[id]? =some (m+id):=by
 unfold qe;rw[o5 (by simpa using h),gD];simp only[Ee h,Option.map_some];cases jf mv id with
 | true=>exact .inr rfl
 | false=>exact .inl rfl
end
end Go.AM
