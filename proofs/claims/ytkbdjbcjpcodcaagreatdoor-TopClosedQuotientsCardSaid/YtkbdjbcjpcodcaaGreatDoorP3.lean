/-
  Functions of the program, lifted to plain data.
-/
import Derived.Lib.AppendStr
import Derived.Laws.BytesString
import Derived.Lib.Builder
import Derived.Lib.UnsafeStr
import Derived.Laws.Runes
import Derived.Lib.LazyBuf
import Derived.Conc.MuLone
import Derived.Defers
import Derived.Test.YtkbdjbcjpcodcaaGreatDoorP2
noncomputable section
set_option linter.unusedVariables false
set_option linter.unusedSimpArgs false
set_option linter.unusedSectionVars false
namespace Go.AM
section
variable {P:Program} {w w':World} {I I':Nat→Nat→Prop} {β β':Nat→Option Nat} {hp hp':Nat→Option ah} {C:af} {B:Nat} {M:Nat→Prop} {w0:Start}
theorem alm {e:TypeId} (he:P.underlying e=some (.int .u8)) (hc:P.cellsOf e=1) (s:ByteArray): ∀(i j:Nat) (x:V) (t':TypeId),(s.data.toList.map Es)[i]? =some x→(aX P e)[j]? =some t'→j<P.cellsOf e→
  ∃u,(Lib.strCells s)[i*P.cellsOf e+j]? =some u∧Pure P w I t' u (ch P e x j):=by
 intro i j x t' hx ht hj;have oM:b8 P e=false:=by simp[b8,he]
 obtain rfl:j=0:=by omega
 simp only[aX,oM,cond_false,List.getElem?_cons_zero,fi] at ht;subst ht;rw[kf] at hx;cases hb:s.data.toList[i]? with
 | none=>grind
 | some b=>
  rw[hb] at hx;cases hx;refine ⟨.int .u8 b.toNat,?_,?_⟩
  ·rw[hc,iC,Nat.add_zero];simp only[Lib.strCells,kf,hb,Option.map_some]
  ·simp only[ch,oM,cond_false];exact .int he
theorem aln (w:World) (t u ty e T:TypeId) (i:TypeInfo) (ht:P.underlying t=some (.slice e)) (hu:P.underlying u=some .string) (hi:P.info? e=some i) (kU:i.size=1)
  (g mU vD:Nat) (cur:Array Value) (hg:w.heap[g]? =some (.cells cur T (0,0))) (s:ByteArray)
  (tS:mU+s.size≤vD) (Ct:mU+s.size≤cur.size):
  (Builtin.append_ #[t,u] ty #[.slice (some ⟨g,0,none⟩) mU vD,.string s]).run P w=
   .ok (.slice (some ⟨g,0,none⟩) (mU+s.size) vD) (w.setRow g (cur.toList.take mU++Lib.strCells s++cur.toList.drop (mU+s.size)).toArray):=by
 have hf:=Lib.run_firstCells_string (P:=P) w 1 s;have cS:=run_storeCells_at P g mU T (Lib.strCells s) 0 cur w hg (by simpa[Lib.strCells_length] using Ct) (Lib.strCells_oneCell s);simp only[Nat.add_zero,Lib.strCells_length] at cS;simp[Builtin.append_,run_underlying ht,run_underlying hu,sizeOf,typeInfo,hi,kU,Builtin.lenOf,tS,hf,Addr.add_lit,cS]
theorem alo (w:World) (t u ty e:TypeId) (i:TypeInfo) (z:Value) (ht:P.underlying t=some (.slice e)) (hu:P.underlying u=some .string) (hi:P.info? e=some i) (hz:i.zero=some z)
  (s:ByteArray) (h0:0<s.size) (Gl:(s.size:Int)≤9223372036854775807) (LB:s.size*i.bytes≤281474976710656) (a0:Option Addr):
  (Builtin.append_ #[t,u] ty #[.slice a0 0 0,.string s]).run P w=
   .ok (.slice (some ⟨w.heap.size,0,none⟩) s.size (grownCap w s.size 0 e))
    (w.drew.alloc (.cells (s.data.map (fun b=>Value.int .u8 b.toNat)++Builtin.zeroCells z.cells (grownCap w s.size 0 e-s.size)) e)):=by
 cases a0 with
 | none=>exact run_append_nil_string w t u ty e i z ht hu hi hz s h0 Gl LB
 | some b=>
  rw[←run_append_nil_string w t u ty e i z ht hu hi hz s h0 Gl LB];have hn:s.size≠0:=by omega
  have Rv: ¬(9223372036854775807<(s.size:Int)):=by omega
  have alp: ¬(281474976710656<Builtin.nextslicecap s.size 0*i.bytes):=by rw[nextslicecap_zero h0];omega
  simp[Builtin.append_,run_underlying ht,run_underlying hu,sizeOf,typeInfo,zeroValue,hi,hz,Builtin.lenOf,Builtin.firstCells,hn,Rv,alp,Question.forced,newRow,grownCap,loadCells,loadCellsFrom]
theorem Z5 (S:aC P w I β hp B M w0) {t u ty e:TypeId} {nb:Nat} {fz:Bool} {x:ByteArray} {xs:List V} {i:TypeInfo} {z:Value} (hu:P.underlying t=some (.slice e)) (sO:P.underlying u=some .string) (ao:c8 P e=true) (hn:hp nb=none)
 (hi:P.info? e=some i) (hz:i.zero=some z) (h3:i.size=P.cellsOf e) (h4:z.cells.size=P.cellsOf e) (Gu:i.size=1) (om:P.bytesOf e=i.bytes) (ed:xs.length*P.bytesOf e≤ba) (qA:xs.length=x.size) (ku:(Lib.strCells x).length=x.size)
 (fK: ∀(i j:Nat) (y:V) (t':TypeId),xs[i]? =some y→(aX P e)[j]? =some t'→j<P.cellsOf e→∃u,(Lib.strCells x)[i*P.cellsOf e+j]? =some u∧Pure P w I t' u (ch P e y j)):
 ∀a0,∃v w' β',(Builtin.append_ #[t,u] ty #[.slice a0 0 0,.string x]).run P w= .ok v w'∧Le P w I β hp w' I β' (an hp nb (some (.arr e xs fz)))∧aC P w' I β' (an hp nb (some (.arr e xs fz))) B M w0∧
  aj P w' I β' (an hp nb (some (.arr e xs fz))) v (.whole e nb):=by
 intro a0;have vC:=yv ao;have hlen:xs.length≤2^45:=by
  have:xs.length*1≤xs.length*P.bytesOf e:=wE _ vC;simp only[ba] at ed;omega
 by_cases h0:x.size=0
 ·have jJ:xs=[]:=oZ (by omega);subst jJ;obtain ⟨a1,a2⟩:=EM S e hn;have hf:=Lib.run_firstCells_string (P:=P) w 1 x;rw[h0] at hf;have jd:Lib.strCells x=[]:=oZ (by omega);exact ⟨.slice a0 0 0,_,_,by cases a0<;>simp[storeCells,jd,Builtin.append_,run_underlying hu,run_underlying sO,sizeOf,typeInfo,hi,Gu,Builtin.lenOf,h0,hf],a1,a2,.dX (bK _ _ _) (bK _ _ _)⟩
 ·have cR:=alo (P:=P) w t u ty e i z hu sO hi hz x (by omega) (by omega) (by rw[←om,←qA];simp only[ba] at ed;omega) a0;have e1:(x.data.map fun b=>Value.int .u8 b.toNat)=(Lib.strCells x).toArray:=by
   apply Array.ext';simp[Lib.strCells]
  rw[e1,←qA] at cR;have qy:=grownCap_ge w xs.length 0 e;have sL:grownCap w xs.length 0 e≤maxLen:=grownCap_le_maxLen w xs.length 0 e (by simp only[maxLen];omega);obtain ⟨n1,n2,n3⟩:=Co S.drew (nb:=nb) (cap:=grownCap w xs.length 0 e) (es:=xs) (C0:=(Lib.strCells x).toArray++Builtin.zeroCells z.cells (grownCap w xs.length 0 e-xs.length)) ao hn
   (by
    have:(Lib.strCells x).length=xs.length*P.cellsOf e:=by grind
    simp only[Jo,rW,size_zeroCells,h4,this,←jh];grind) qy sL
   (fun i' j y t' hy ht hj=>by
    obtain ⟨u,lM,hp⟩:=fK i' j y t' hy ht hj;have aR:=(cC.1 lM).1;refine ⟨u,?_,Pure.drew hp⟩;grind)
  exact ⟨_,_,_,cR,(Le.drew w I β hp).trans n1,n2,n3⟩
theorem alq (S:aC P w I β hp B M w0) {t u ty e:TypeId} {nb:Nat} {s:Value} {sv:V} {x:ByteArray} {r:R} {rd:List Nat} (hu:P.underlying t=some (.slice e)) (sO:P.underlying u=some .string) (he:P.underlying e=some (.int .u8)) (hs:aj P w I β hp s sv)
  (h:(Bi P nb e sv (.list e (x.data.toList.map Es))).run C hp=some (r,rd)):dq P ((Builtin.append_ #[t,u] ty #[s,.string x]).run P w) w I β hp B M w0 r:=by
 unfold Bi at h;obtain ⟨ao,h⟩:=aD h;simp only[uQ] at h;obtain ⟨_,h⟩:=aD h;have oM:b8 P e=false:=by simp[b8,he]
 have gz:P.cellsOf e=1:=by rw[←(oF ao).1,EJ oM];rfl
 obtain ⟨i,z,hi,hz,h3,h4,_⟩:=lb ao;have Gu:i.size=1:=by omega
 have vC:=yv ao;have om:P.bytesOf e=i.bytes:=by simp[Program.bytesOf,hi]
 have LL:=alm (P:=P) (w:=w) (I:=I) he gz x;have qA:(x.data.toList.map Es).length=x.size:=by simp
 have ku:(Lib.strCells x).length=x.size:=Lib.strCells_length x;have h1:=Lib.strCells_oneCell x;generalize jJ:x.data.toList.map Es=xs at*
 cases sv with
 | nilS e'=>
  obtain ⟨hc,h⟩:=aD h;simp only[aK,aM,gb] at hc;obtain ⟨hn,rfl⟩:=mR h;obtain ⟨a0,rfl⟩: ∃a0,s= .slice a0 0 0:=by cases hs;grind
  obtain ⟨v,w',β',a1,a2,a3,a4⟩:=Z5 S hu sO ao hn hi hz h3 h4 Gu om hc.2 qA ku LL _;exact ⟨v,w',I,β',a1,a2,a3,a4⟩
 | whole e' id=>
  obtain ⟨l,h⟩:=run_get h;cases ae:hp id with
  | none=>rw[ae] at h;cases h
  | some blk=>
   rw[ae] at h;cases blk with
   | dead=>cases h
   | var _=>cases h
   | nest _ _ _=>cases h
   | map _ _=>cases h
   | out _ _ _ _=>cases h
   | arr dZ es fz=>
    obtain ⟨hc,h⟩:=aD h;obtain ⟨hn,rfl⟩:=mR h;simp only[aK,aM,gb] at hc;obtain ⟨Ra,Rb,ed⟩:=hc;subst Ra;subst Rb;have bq:nb≠id:=fun e=>by grind
    obtain ⟨k1,k2⟩:=w7 S ae;have jf:an hp id (some ah.dead) nb=none:=by rw[cG _ _ bq];exact hn
    cases hs with
    | eb hd=>grind
    | dP hd=>grind
    | eh hd=>grind
    | fF hd=>grind
    | dX hd hb=>
     rw[ae] at hd;cases hd;simp only[List.length_nil,dL] at ed;obtain ⟨v,w',β',a1,a2,a3,a4⟩:=Z5 k2 hu sO ao jf hi hz h3 h4 Gu om ed qA ku LL _;exact ⟨v,w',I,β',a1,k1.trans a2,a3,a4⟩
    | @whole _ _ aL pe b cap hd hb bd bR hm=>
     rw[ae] at hd;cases hd;have hr:=S.h.rel id _ ae;cases hr with
     | ez au=>grind
     | @arr _ T0 _ _ b' Ca hL _ au hh xx hf fO xy=>
      rw[hb] at au;cases au;have hlen:es.length+xs.length≤2^45:=by
       have:(es.length+xs.length)*1≤(es.length+xs.length)*P.bytesOf e:=wE _ vC;simp only[ba] at ed;omega
      rw[lD hh] at bd;have qk: ∀aq blk',an hp id (some ah.dead) aq=some blk'→¬bh P w (β aq) blk' b:=by
       intro aq blk' h1 h2;by_cases nG:aq=id
       ·subst nG;rw[bK] at h1;cases h1;exact h2.alive rfl
       ·rw[cG _ _ nG] at h1;exact nG (S.h.inj aq id blk' _ b h1 ae h2 (.root (by simp) hb))
      have Gm:=S.h.wY id _ b ae (by simp) hb;have rF:es.length*P.cellsOf e≤Ca.toList.length:=by omega
      have alr:(Lib.strCells x).length=xs.length*P.cellsOf e:=by grind
      by_cases tS:es.length+xs.length≤cap
      ·have Ct:es.length*P.cellsOf e+(Lib.strCells x).length≤Ca.size:=by grind
       have cR:=aln (P:=P) w t u ty e T0 i hu sO hi Gu b es.length cap Ca hh x (by omega) (by grind);have fK:=LA (P:=P) (w:=w) (I:=I) (n:=es.length) (c:=Ca.toList) rfl (fun i j y t' a b c=>by
        grind) LL rF (Ca.toList.drop (es.length*P.cellsOf e+(Lib.strCells x).length))
       generalize Lq:(Ca.toList.take es.length++Lib.strCells x++Ca.toList.drop (es.length+x.size)).toArray=C' at cR;have pK:C'.size=Ca.size:=by
        grind
       have Rw:(w.setRow b C').heap[b]? =some (.cells C' T0 (0,0)):=setRow_heap w b Ca C' T0 _ hh;have rH: ∀j,j<es.length*P.cellsOf e→C'[j]? =Ca[j]? :=fun j hj=>by
        grind
       obtain ⟨a1,a2⟩:=Bz k2 (blk:= .arr e (es++xs) fz) (w':=w.setRow b C') jf qk (Zv hh Rw (Q4 hf fO) rH) (fun b' h _=>setRow_other w b b' _ h) (by simp) ⟨rfl,rfl⟩ Gm
        (fun b' h=>(dU (h.flat (by simp))).symm) (fun hle=> .arr (pK▸hL) ao rfl Rw (by grind) (fun _ j h=>oA (Q4 hf fO j h) (eF _ (by simp))) fO fun i j y t' a b c=>by
         obtain ⟨v,hv,hp⟩:=fK i j y t' a b c;refine ⟨v,?_,hp.mono hle.ej hle.cQ⟩;grind)
       refine ⟨_,_,_,_,cR,k1.trans a1,a2,?_⟩;have a3:=aj.whole (P:=P) (w:=w.setRow b C') (I:=I) (β:=an β nb (some b)) (hp:=an (an hp id (some .dead)) nb (some (.arr e (es++xs) fz))) (cap:=cap) (b:=b) (es:=es++xs) (fz:=fz) (id:=nb) (e:=e) (bK _ _ _) (bK _ _ _) (by rw[lD Rw,pK,bd]) (by grind) hm;rw[iA,qA] at a3;exact a3
      ·have hold: ∀(j:Nat) v,(Ca.toList.take (es.length*P.cellsOf e))[j]? =some v→w.cell? ((⟨b,0,none⟩:Addr).add j)=some v:=by
        intro j v hj;have dr:=(cC.1 hj).1;have dB:j<es.length*P.cellsOf e:=by grind
        rw[jv dB] at hj;rw[od,cell?_cells hh,dL];grind
       have cR:=Lib.run_append_grow_string (P:=P) w t u ty e i z hu sO hi hz ⟨b,0,none⟩ es.length cap (Ca.toList.take (es.length*P.cellsOf e)) (by grind) hold x (by omega) (by omega)
        (growslice_fits (by omega) (by rw[←om,←qA];simp only[ba] at ed;omega))
       rw[←qA] at cR;have qy:=grownCap_ge w (es.length+xs.length) cap e;have sL:grownCap w (es.length+xs.length) cap e≤maxLen:=grownCap_le_maxLen w _ cap e (by simp only[maxLen];omega);have fK:=LA (P:=P) (w:=w) (I:=I) (n:=es.length) (c:=Ca.toList) rfl (fun i j y t' a b c=>by
        grind) LL rF (Builtin.zeroCells z.cells (grownCap w (es.length+xs.length) cap e-(es.length+xs.length))).toList
       obtain ⟨n1,n2,n3⟩:=Co k2.drew (nb:=nb) (cap:=grownCap w (es.length+xs.length) cap e) (es:=es++xs)
        (C0:=(Ca.toList.take (es.length*P.cellsOf e)).toArray++(Lib.strCells x).toArray++Builtin.zeroCells z.cells (grownCap w (es.length+xs.length) cap e-(es.length+xs.length))) ao jf
        (by
         have e1:(Ca.toList.take (es.length*P.cellsOf e)).length=es.length*P.cellsOf e:=by simp;omega
         simp only[Jo,rW,size_zeroCells,h4,alr,e1,←jh];grind) (by grind) sL
        (fun i j y t' a b c=>by
         obtain ⟨v,hv,hp⟩:=fK i j y t' a b c;refine ⟨v,?_,Pure.drew hp⟩;grind)
       rw[iA] at n3;exact ⟨_,_,_,_,cR,(k1.trans (Le.drew w I β _)).trans n1,n2,n3⟩
 | _=>cases h
end
section
variable {P:Program} {w w':World} {I I':Nat→Nat→Prop} {β β':Nat→Option Nat} {hp hp':Nat→Option ah} {C:af} {B:Nat} {M:Nat→Prop} {w0:Start}
theorem Z6: ∀(ns:List Int) (s:ByteArray),(ns.foldl (fun r n=>r.push (UInt8.ofNat n.toNat)) s).data.toList=s.data.toList++ns.map fun n=>UInt8.ofNat n.toNat
 | [],s=>by simp
 | n::ns,s=>by
  simp only[List.foldl_cons,Z6 ns,lu];simp_all
theorem Qm {e:TypeId} {u:Value} {x:V} (he:P.underlying e=some (.int .u8)) (hp:Pure P w I e u x):u= .int .u8 x.toInt:=by
 cases hp with
 | int hp'=>rw[he] at hp';cases hp';rfl
 | bool hp'=>grind
 | str hp'=>grind
 | nil hp'=>grind
 | emp hp'=>grind
 | list _ hp'=>grind
theorem als (S:aC P w I β hp B M w0) {src dst e:TypeId} {v:Value} {x:V} {r:R} {rd:List Nat} (hs:P.underlying src=some (.slice e)) (he:P.underlying e=some (.int .u8)) (hd:P.underlying dst=some .string)
  (hv:aj P w I β hp v x) (h:(Rd.aB (c8 P e) (uQ e x fun es=> .ret ⟨.str (jU es),[]⟩)).run C hp=some (r,rd)):dq P ((convert src dst v).run P w) w I β hp B M w0 r:=by
 obtain ⟨ao,h⟩:=aD h;obtain ⟨xs,hx,l,h⟩:=Gk S.h.rel ao hv h;obtain rfl:=aN h;have oM:b8 P e=false:=by simp[b8,he]
 have h1:P.cellsOf e=1:=by rw[←(oF ao).1,EJ oM];rfl
 rcases hx with ⟨⟨a,rfl⟩,rfl⟩|⟨a,c,news,hr⟩
 ·refine .same S (v:= .string .empty) ?_ (.str (by simp[jU]));rw[run_convert_bytes_string w src dst e a 0 0 hs he hd];cases a<;>simp[Conv.bytesToString,loadCells,loadCellsFrom]
 ·have tR:news=(xs.map V.toInt).map (Value.int .u8):=by
   apply List.ext_getElem?;intro j;by_cases hj:j<xs.length
   ·obtain ⟨u,hu,hp⟩:=hr.el j 0 xs[j] e (b7 hj) (by simp[aX,oM]) (by omega);rw[h1] at hu;simp only[ch,oM,cond_false] at hp;have lM:news[j]? =some u:=by grind
    rw[lM];have:=Qm he hp;grind
   ·have hl:news.length=xs.length:=by rw[hr.len,h1];simp
    grind
  have Rx:=run_loadCells_list (P:=P) w a news hr.cell;have hl:news.length=xs.length:=by grind
  rw[hl] at Rx;rw[tR] at Rx;refine .same S (v:= .string ((xs.map V.toInt).foldl (fun r n=>r.push (UInt8.ofNat n.toNat)) ByteArray.empty)) ?_ (.str ?_)
  ·rw[hr.val,run_convert_bytes_string w src dst e _ _ _ hs he hd];exact run_bytesToString w a xs.length c (xs.map V.toInt) Rx
  ·rw[Z6];simp[jU]
theorem alu {n:Int} (h:(decide (0≤n)&&decide (n<128))=true):(Utf8.encode n).data.toList=[UInt8.ofNat n.toNat]:=by
 simp only[aK,jQ] at h;have h1:Utf8.valid n=true:=by rw[validRune_eq];exact cg (by omega)
 unfold Utf8.encode;simp[h1,show n.toNat<128 by omega]
theorem aj.Ry {v:Value} {e:TypeId} (h:aj P w I β hp v (.nilS e)):v= .slice none 0 0:=by cases h;rfl
theorem aj.LM {v:Value} (h:aj P w I β hp v .eG):v= .pointer none:=by cases h;rfl
section
variable (w:World)
theorem alv (t e:TypeId) (a:Addr) (h:P.underlying t=some (.pointer e)):(binOp .eql t (.pointer (some a)) (.pointer none)).run P w= .ok (.bool false) w:=by
 have h0: ∀d:Nat,(Op.equalIn (d+1) t (.pointer (some a)) (.pointer none)).run P w= .ok false w:=fun d=>by simp[Op.equalIn,run_underlying h]
 simp only[binOp];simp[Op.equal,Op.maxDepth,h0 9999]
theorem alw (t e:TypeId) (a:Addr) (h:P.underlying t=some (.pointer e)):(binOp .neq t (.pointer (some a)) (.pointer none)).run P w= .ok (.bool (!false)) w:=by
 have h0: ∀d:Nat,(Op.equalIn (d+1) t (.pointer (some a)) (.pointer none)).run P w= .ok false w:=fun d=>by simp[Op.equalIn,run_underlying h]
 simp only[binOp];simp[Op.equal,Op.maxDepth,h0 9999]
theorem alx (t e:TypeId) (a:Addr) (h:P.underlying t=some (.pointer e)):(binOp .eql t (.pointer none) (.pointer (some a))).run P w= .ok (.bool false) w:=by
 have h0: ∀d:Nat,(Op.equalIn (d+1) t (.pointer none) (.pointer (some a))).run P w= .ok false w:=fun d=>by simp[Op.equalIn,run_underlying h]
 simp only[binOp];simp[Op.equal,Op.maxDepth,h0 9999]
theorem aly (t e:TypeId) (a:Addr) (h:P.underlying t=some (.pointer e)):(binOp .neq t (.pointer none) (.pointer (some a))).run P w= .ok (.bool (!false)) w:=by
 have h0: ∀d:Nat,(Op.equalIn (d+1) t (.pointer none) (.pointer (some a))).run P w= .ok false w:=fun d=>by simp[Op.equalIn,run_underlying h]
 simp only[binOp];simp[Op.equal,Op.maxDepth,h0 9999]
theorem alz (t e:TypeId) (h:P.underlying t=some (.pointer e)):(binOp .eql t (.pointer none) (.pointer none)).run P w= .ok (.bool true) w:=by
 have h0: ∀d:Nat,(Op.equalIn (d+1) t (.pointer none) (.pointer none)).run P w= .ok true w:=fun d=>by simp[Op.equalIn,run_underlying h]
 simp only[binOp];simp[Op.equal,Op.maxDepth,h0 9999]
theorem alA (t e:TypeId) (h:P.underlying t=some (.pointer e)):(binOp .neq t (.pointer none) (.pointer none)).run P w= .ok (.bool (!true)) w:=by
 have h0: ∀d:Nat,(Op.equalIn (d+1) t (.pointer none) (.pointer none)).run P w= .ok true w:=fun d=>by simp[Op.equalIn,run_underlying h]
 simp only[binOp];simp[Op.equal,Op.maxDepth,h0 9999]
end
theorem LN (S:aC P w I β hp B M w0) {op:BinOp} {t:TypeId} {b:Bool} {x y:Operand} {v1 v2:Value} {r:R} {rd:List Nat} (h:(ptrEq P op t b).run C hp=some (r,rd)) (hg:(eqGuard op t x y v1 v2).run P w= .ok () w)
  (he: ∀e j,P.underlying t=some (.pointer e)→P.info? e=some j→(binOp .eql t v1 v2).run P w= .ok (.bool b) w∧(binOp .neq t v1 v2).run P w= .ok (.bool (!b)) w):
  dq P ((do eqGuard op t x y v1 v2;binOp op t v1 v2:Sem Value).run P w) w I β hp B M w0 r:=by
 unfold ptrEq at h;cases hu:P.underlying t with
 | none=>rw[hu] at h;cases h
 | some d=>
  rw[hu] at h;cases d<;>simp only at h<;>first|(cases h;done)|skip
  rename_i e;obtain ⟨h1,h2⟩:=aD h;obtain ⟨j,hj⟩:=A6.1 h1;obtain ⟨k1,k2⟩:=he e j hu hj;cases op<;>simp only at h2<;>first|(cases h2;done)|skip
  ·obtain rfl:=aN h2;exact .same S (by simp_all) .bool
  ·obtain rfl:=aN h2;exact .same S (by simp_all) .bool
theorem alB {b n:Nat}:(∀b',b'≠b→(w.freeze ⟨b,0,none⟩ n).heap[b']? =w.heap[b']?)∧bsize (w.freeze ⟨b,0,none⟩ n) b=bsize w b∧w.heap.size≤(w.freeze ⟨b,0,none⟩ n).heap.size∧(w.freeze ⟨b,0,none⟩ n).os=w.os∧(w.freeze ⟨b,0,none⟩ n).output=w.output:=by
 unfold World.freeze;split
 ·grind
 ·refine ⟨fun b' hb=> ?_,?_,by simp,rfl,rfl⟩
  ·grind
  ·simp only[bsize,Jr,o0];grind
theorem alC {e:TypeId} (hb:isByte P e=true):P.underlying e=some (.int .u8):=by
 unfold isByte at hb;grind
theorem alD (S:aC P w I β hp B M w0) {ts:Array TypeId} {ty e:TypeId} {v:Value} {id:Nat} {es:List V} {fz:Bool} (hv:aj P w I β hp v (.whole e id)) (ae:hp id=some (.arr e es fz)) (h0:0<es.length):
  dq P ((Builtin.unsafeSliceData_ ts ty #[v]).run P w) w I β hp B M w0 ⟨.ptr id 0 0,[]⟩:=by
 cases hv with
 | eb h=>grind
 | dX h _=>grind
 | dP h _ _ _ _=>grind
 | eh h _=>grind
 | fF h _ _ _ _=>grind
 | @whole _ _ aL pe b cap h hb bR hle hm=>
  rw[ae] at h;cases h;refine .same S (Lib.run_unsafeSliceData_row w ts ty ⟨b,0,none⟩ es.length cap (by omega)) ?_;have:=aj.ptr (P:=P) (w:=w) (I:=I) (β:=β) (i:=0) (c:=0) ae (by simp) hb;grind
theorem alE {P:Program} {w:World} (pt it ty e T:TypeId) (hp:P.underlying pt=some (.pointer e)) (g cells:Nat) (LO:w.shape? g=some (T,cells)) (l:List UInt8) (h0:l≠[]) (Zx:liesAt P P.depth T (cells/P.cellsOf T) 0 e l.length=true) (Gl:l.length≤9223372036854775807)
  (gJ: ∀j x,l[j]? =some x→w.cell? ((⟨g,0,none⟩:Addr).add j)=some (.int .u8 x.toNat)):
  (Builtin.unsafeString_ #[pt,it] ty #[.pointer (some ⟨g,0,none⟩),.int .i64 l.length]).run P w= .ok (.string ⟨l.toArray⟩) (w.freeze ⟨g,0,none⟩ l.length):=by
 have hl:l.length≠0:=by grind
 have hlb:=Lib.run_loadBytes (P:=P) w l ⟨g,0,none⟩ .empty gJ;have Rv: ¬(9223372036854775807:Int)<(l.length:Int):=by omega
 have alF:Builtin.unsafeString_ #[pt,it] ty #[.pointer (some ⟨g,0,none⟩),.int .i64 l.length]=
   (do
    let n←asInt (.int .i64 l.length)
    if n < 0 then runtimePanic (.error "unsafe.String: len out of range")
    if n > IntKind.i64.max then unsupported (.unsafePointer "String: a length above the largest int")
    if n=0 then pure (.string .empty)
    else if←variablesAt ⟨g,0,none⟩ (←elemOf pt) n.toNat then do
     let s←loadBytes ⟨g,0,none⟩ .empty n.toNat
     Go.freeze ⟨g,0,none⟩ n.toNat
     pure (.string s)
    else unsupported (.unsafePointer "String: not so many bytes at ptr")) := rfl
 rw[alF];have alG:IntKind.i64.max=9223372036854775807:=rfl;have alH: ¬(l.length:Int)<0:=by omega
 simp[asInt,asIntOf,alG,Rv,alH,hl,variablesAt,LO,elemOf,run_underlying hp,Zx,hlb]
theorem alI (S:aC P w I β hp B M w0) {t u ty e:TypeId} {vx:Value} {id:Nat} {n:Int} {es:List V} (hu:P.underlying t=some (.pointer e)) (hb:isByte P e=true) (hv:aj P w I β hp vx (.ptr id 0 0))
  (ae:hp id=some (.arr e es false)) (h0:0<n) (hn:n≤es.length) (hm:n.toNat≤pc) (mM:(es.take n.toNat).all Pj=true):dq P ((Builtin.unsafeString_ #[t,u] ty #[vx,.int .i64 n]).run P w) w I β hp B M w0 ⟨.str (jU (es.take n.toNat)),[(id,.dead)]⟩:=by
 obtain ⟨b,Rz,rfl⟩:=hv.je ae (by simp);have fW:=hb;have he:P.underlying e=some (.int .u8):=by
  unfold isByte at hb;grind
 have oM:b8 P e=false:=by simp[b8,he]
 have hr:=S.h.rel id _ ae;rw[Rz] at hr;cases hr with
 | ez au=>cases au
 | @arr _ T0 _ _ b1 Ca hL ao rF hh hs hI dp fK=>
  cases rF;have h1:P.cellsOf e=1:=by rw[←(oF ao).1,EJ oM];rfl
  have aR:=S.aha ae (by simp) Rz;have hl:(jU (es.take n.toNat)).length=n.toNat:=by simp[jU];omega
  have Rt:n=((jU (es.take n.toNat)).length:Nat):=by omega
  have cR:=alE (P:=P) (w:=w) t u ty e T0 hu b Ca.size (by simp[World.shape?,hh]) (jU (es.take n.toNat)) (fun h=>by grind) (hL fW h1 _ (by grind)) (by rw[hl];unfold pc at hm;omega) (fun j x hx=>by
   have hj:j<n.toNat:=by
    grind
   have yD:j<es.length:=by omega
   simp only[jU,kf,jv hj,b7 yD,Option.map_some,fi] at hx;obtain ⟨v,qq,bP⟩:=fK j 0 es[j] e (b7 yD) (by simp[aX,oM]) (by omega);rw[h1] at qq;simp only[ch,oM,cond_false] at bP;have:=Qm he bP;have hr:=ig.1 mM es[j] (mB (by rw[jv hj];grind));simp only[Pj,aK,jQ] at hr;have kZ:(x.toNat:Int)=es[j].toInt:=by
    rw[←hx];have:es[j].toInt.toNat<256:=by omega
    simp only[UInt8.toNat_ofNat'];omega
   rw[od,cell?_cells hh,kZ];grind)
  obtain ⟨f1,f2,f3,f4,f5⟩:=alB (w:=w) (b:=b) (n:=n.toNat);obtain ⟨k1,k2⟩:=BA (w':=w.freeze ⟨b,0,none⟩ n.toNat) S ae (by simp) (blk':= .dead) (by trivial) Rz (dp rfl) (by simp) f1 f2 f3 ⟨f4,f5⟩ (fun _=> .dead);rw[←Rt,hl] at cR;refine ⟨.string ⟨(jU (es.take n.toNat)).toArray⟩,_,I,β,?_,k1,k2,.str ?_⟩
  all_goals grind
def RA:Op→Bool
 | .call {callee:= .value (.func _),..}=>true
 | .call {callee:= .value (.tmp _),..}=>true
 | .defer _=>true
 | _=>false
theorem sx.val {o:Oper} {a:Act} {s:Sem Value} {r:R} (he:execOp a.eval o=(do Pure.pure (Next.value (←s)))) (h:dq P (s.run P w) w I β hp B M w0 r):sx P ((execOp a.eval o).run P w) w I β hp B M w0 r:=by
 rw[he];exact h.op
theorem alJ {A:dw} (S:aC P w I β hp B M w0) (hg:jW P A.aE w I) {a:Act} {sl:Nat→V} (hs:n8 P w I β hp a sl) {ix nb:Nat} {o:Oper} (RB:RA o.op=false) {r:R} {rd:List Nat}
  (h:(jk P A sl ix nb o).run C hp=some (r,rd)):sx P ((execOp a.eval o).run P w) w I β hp B M w0 r:=by
 obtain ⟨dst,op,ty,pos,after,guard⟩:=o;cases op<;>simp only[jk] at h<;>first|(cases h;done)|skip
 case move x=>
  obtain rfl:=aN h;exact ⟨_,w,I,β,.inl (by simp[execOp]),Le.refl w I β hp,S,hs.ev hg ty x⟩
 case assign x=>
  obtain rfl:=aN h;exact ⟨_,w,I,β,.inl (by simp[execOp]),Le.refl w I β hp,S,hs.ev hg ty x⟩
 case pick c x y=>
  have hc:=hs.ev hg ty c;cases zf:aW P A.aE ty sl c<;>rw[zf] at h hc<;>simp only at h<;>first|(cases h;done)|skip
  rename_i t;have alK:=hc.nn;have hx:=hs.ev hg ty x;have hy:=hs.ev hg ty y;have fin: ∀z:V,aj P w I β hp (if t then a.eval x else a.eval y) z→sx P ((execOp a.eval ⟨dst,.pick c x y,ty,pos,after,guard⟩).run P w) w I β hp B M w0 ⟨z,[]⟩:=by
   intro z hz;exact ⟨_,w,I,β,.inl (by simp[execOp,alK,asBool]),Le.refl w I β hp,S,hz⟩
  cases Z7:gone (aW P A.aE ty sl x) with
  | true=>
   rw[Z7] at h;obtain ⟨h1,h⟩:=aD h;obtain rfl:=aN h;grind
  | false=>
   rw[Z7] at h;simp only[cond_false] at h;cases Z8:gone (aW P A.aE ty sl y) with
   | true=>
    rw[Z8] at h;obtain ⟨h1,h⟩:=aD h;obtain rfl:=aN h;grind
   | false=>
    rw[Z8] at h;obtain rfl:=aN h;exact fin _ (Xg hx hy)
 case makeFunc fn x y=>
  cases fn<;>simp only[jk] at h<;>first|(cases h;done)|skip
  rename_i f;obtain rfl:=aN h;refine ⟨.func (.func f) (x.map a.eval) (y.map a.eval),w,I,β,.inl (by simp[execOp,Instr.makeFunc]),Le.refl w I β hp,S,.fn (by simp) (fun j v z hj hz=> ?_) (by simp) (fun j v z hj hz=> ?_)⟩
  ·rw[Array.getElem?_map] at hj;rw[kf,rZ] at hz;cases hx:x[j]? with
   | none=>grind
   | some o1=>
    rw[hx] at hj hz;cases hj;cases hz;exact hs.ev hg ty o1
  ·rw[Array.getElem?_map] at hj;rw[kf,rZ] at hz;cases hx:y[j]? with
   | none=>grind
   | some o1=>
    rw[hx] at hj hz;cases hj;cases hz;exact hs.ev hg ty o1
 case defer c=>cases RB
 case makeMap t res=>
  cases res with
  | some x=>cases h
  | none=>exact .val rfl (alg S h)
 case lookup t m k ok=>
  cases ht:pd P t with
  | none=>rw[ht] at h;cases h
  | some q=>
   obtain ⟨kt,vt⟩:=q;rw[ht] at h;exact .val (s:=Instr.lookup t (a.eval m) (a.eval k) ok) rfl (alf S ht (hs.ev hg t m) (hs.ev hg kt k) h)
 case mapUpdate t m k x=>
  cases ht:pd P t with
  | none=>rw[ht] at h;cases h
  | some q=>
   obtain ⟨kt,vt⟩:=q;rw[ht] at h;have:=Z3 S ht (hs.ev hg t m) (hs.ev hg kt k) (hs.ev hg vt x) h;exact this.op
 case insert t m k x=>
  cases ht:pd P t with
  | none=>rw[ht] at h;cases h
  | some q=>
   obtain ⟨kt,vt⟩:=q;rw[ht] at h;have:=Z3 S ht (hs.ev hg t m) (hs.ev hg kt k) (hs.ev hg vt x) h;exact this.op
 case alloc e=>
  cases dst with
  | none=>exact .val rfl (Zl S h)
  | some d=>
   simp only at h;cases tU:iN A.sb d with
   | true=>rw[tU] at h;exact .val rfl (akF S h)
   | false=>rw[tU] at h;exact .val rfl (Zl S h)
 case box e x=>
  exact .val rfl (akA S (hs.ev hg e x) h)
 case build t ps=>exact .val rfl (akC S hs hg h)
 case buildSlice t len ps=>
  cases hu:P.underlying t with
  | none=>rw[hu] at h;cases h
  | some d=>
   rw[hu] at h;cases d<;>simp only at h<;>first|(cases h;done)|skip
   cases dst with
   | none=>exact .val rfl (ZB S hs hg hu h)
   | some d=>
    simp only at h;cases tU:iN A.sb d with
    | true=>rw[tU] at h;exact .val rfl (akW S hs hg hu h)
    | false=>rw[tU] at h;exact .val rfl (ZB S hs hg hu h)
 case load t x=>exact .val rfl (ahp S (hs.ev hg ty x) h)
 case store t x y=>
  have:=akz S (hs.ev hg ty x) (hs.ev hg t y) h;exact this.op
 case nilCheck x=>
  have hx:=hs.ev hg ty x;cases jg:aW P A.aE ty sl x<;>rw[jg] at h hx<;>simp only at h<;>first|(cases h;done)|skip
  ·obtain ⟨⟨blk,ae,hd⟩,l,h⟩:=EO h;obtain rfl:=aN h;have dk:=hx;obtain ⟨b,hb,he⟩:=hx.je ae hd;rw[he] at dk;exact ⟨_,w,I,β,.inl (by simp only[execOp,he];rfl),Le.refl w I β hp,S,dk⟩
  ·obtain rfl:=aN h;have dk:=hx;obtain ⟨b,o,he,_⟩:=hx.EP;rw[he] at dk;exact ⟨_,w,I,β,.inl (by simp only[execOp,he];rfl),Le.refl w I β hp,S,dk⟩
  ·obtain ⟨e0,es,vers,l,ae,h1,h2,h3,h⟩:=rm h;obtain rfl:=aN h;have dk:=hx;obtain ⟨b,o,he,_⟩:=hx.Xb ae h1 h2 h3;rw[he] at dk;exact ⟨_,w,I,β,.inl (by simp only[execOp,he];rfl),Le.refl w I β hp,S,dk⟩
 case binOp op t x y yt=>
  have hx:=hs.ev hg t x;have hy:=hs.ev hg t y;refine .val (s:=do eqGuard op t x y (a.eval x) (a.eval y);binOp op t (a.eval x) (a.eval y)) rfl ?_;cases jg:aW P A.aE t sl x<;>cases ua:aW P A.aE t sl y<;>rw[jg,ua] at h<;>rw[jg] at hx<;>rw[ua] at hy<;>first|(simp only[mE] at h;cases h;done)|skip
  ·rw[hx.fU,hy.fU];have:=ahf S h;simpa[ahc] using this
  ·rw[hx.nn,hy.nn];have:=ahh S h;simpa[ahd] using this
  ·obtain ⟨s1,e1,l1⟩:=hx.oG;obtain ⟨s2,e2,l2⟩:=hy.oG;rw[e1,e2];rw[←l1,←l2] at h;have:=ahi (t:=t) S h;simpa[ahe] using this
  ·simp only[mE] at h;rw[hx.Ry,hy.Ry];cases hu:P.underlying t with
   | none=>rw[hu] at h;cases h
   | some d=>
    rw[hu] at h;cases d<;>(try (cases h;done))
    cases op<;>simp only at h<;>first|(cases h;done)|skip
    ·obtain rfl:=aN h;exact .same S (by simpa[eqGuard] using run_eql_slice_nil w _ _ none 0 0 hu) .bool
    ·obtain rfl:=aN h;exact .same S (by simpa[eqGuard] using run_neq_slice_nil w _ _ none 0 0 hu) .bool
  ·obtain ⟨cs,e1,h1,h2⟩:=hx.np;obtain ⟨ds,e2,h3,h4⟩:=hy.np;rw[e1,e2];exact ahj S h1 h3 h2 h4 h
  ·
   simp only[mE] at h;obtain ⟨h1,h2⟩:=aD h;clear h;simp only[aK,aM] at h1;obtain ⟨rfl,rfl,rfl⟩:=h1;obtain ⟨⟨blk,ae,hd⟩,l,h⟩:=EO h2;obtain ⟨b,hb,e1⟩:=hx.je ae hd;obtain ⟨b',au,e2⟩:=hy.je ae hd;rw[hb] at au;cases au;rw[e1,e2];exact LN S h (by cases op<;>simp[eqGuard]) fun e j he hj=>⟨run_eql_ptr_same w _ he hj,Lib.run_neq_ptr_same w _ he hj⟩
  ·simp only[mE] at h;obtain ⟨⟨blk,ae,hd⟩,l,h⟩:=EO h;obtain ⟨b,_,e1⟩:=hx.je ae hd;rw[e1,hy.LM];exact LN S h (by cases op<;>simp[eqGuard]) fun e j he hj=>⟨alv w t e _ he,alw w t e _ he⟩
  ·simp only[mE] at h;obtain ⟨⟨blk,ae,hd⟩,l,h⟩:=EO h;obtain ⟨b,_,e1⟩:=hy.je ae hd;rw[e1,hx.LM];exact LN S h (by cases op<;>simp[eqGuard]) fun e j he hj=>⟨alx w t e _ he,aly w t e _ he⟩
  ·simp only[mE] at h;rw[hx.LM,hy.LM];exact LN S h (by cases op<;>simp[eqGuard]) fun e j he hj=>⟨alz w t e he,alA w t e he⟩
  ·
   simp only[mE] at h;obtain ⟨l,h⟩:=run_get h;split at h
   ·rename_i t2 es ae;obtain ⟨b,hb⟩:=hx.alk ae;rw[hy.Ru,hb];exact Z4 (a:=some b) S x y h
   ·cases h
  ·simp only[mE] at h;rw[hx.Ru,hy.Ru];exact Z4 (a:=none) S x y h
  ·simp only[mE] at h;rename_i e1 es e2;rw[hy.Ry];cases hu:P.underlying t with
   | none=>rw[hu] at h;cases h
   | some d=>
    rw[hu] at h;cases d<;>(try (cases h;done))
    have hv:(es=[]∧a.eval x= .slice none 0 0)∨(es≠[]∧∃b n c,a.eval x= .slice (some b) n c):=by
     generalize a.eval x=u at hx;cases hx with
     | nl q q0=>
      cases q with
      | nil=>exact .inl ⟨rfl,rfl⟩
      | emp=>cases q0 rfl
      | list g b1 c1 d1 e1=>
       by_cases he:es=[]
       ·cases q0 he
       ·exact .inr ⟨he,_,_,_,rfl⟩
    cases op<;>simp only at h<;>first|(cases h;done)|skip
    ·obtain rfl:=aN h;rcases hv with ⟨rfl,hv⟩|⟨he,b,n,c,hv⟩
     ·rw[hv];exact .same S (by simpa[eqGuard] using run_eql_slice_nil w _ _ none 0 0 hu) .bool
     ·rw[hv];have:Nat.beq es.length 0=false:=by cases es with|nil=>exact absurd rfl he|cons _ _=>rfl
      rw[this];exact .same S (by simpa[eqGuard] using run_eql_slice_nil w _ _ (some b) n c hu) .bool
    ·obtain rfl:=aN h;rcases hv with ⟨rfl,hv⟩|⟨he,b,n,c,hv⟩
     ·rw[hv];exact .same S (by simpa[eqGuard] using run_neq_slice_nil w _ _ none 0 0 hu) .bool
     ·rw[hv];have:Nat.beq es.length 0=false:=by cases es with|nil=>exact absurd rfl he|cons _ _=>rfl
      rw[this];exact .same S (by simpa[eqGuard] using run_neq_slice_nil w _ _ (some b) n c hu) .bool
 case unOp op t x=>exact .val rfl (ahk S (hs.ev hg ty x) h)
 case convert src dst x=>
  have hx:=hs.ev hg ty x;refine .val (s:=convert src dst (a.eval x)) rfl ?_;cases kU:P.underlying src with
  | none=>rw[kU] at h;cases h
  | some d1=>
   cases pL:P.underlying dst with
   | none=>rw[kU,pL] at h;cases d1<;>cases h
   | some d2=>
    rw[kU,pL] at h;have ki: ∀{b:Nat} {T:TypeId} {cs:List V} {id:Nat},hp id=some (.var T cs)→β id=some b→w.shape? b=some (T,cs.length):=by
     intro b T cs id ae hb;have hr:=S.h.rel id _ ae;rw[hb] at hr;cases hr with
     | var au hh bd _ _ _=>cases au;simp[World.shape?,hh,bd]
    cases d1<;>(try (cases d2<;>cases h;done))
    ·cases d2<;>(try (cases h;done))<;>cases jg:aW P A.aE ty sl x<;>rw[jg] at h hx<;>simp only at h<;>first|(cases h;done)|skip
     ·obtain rfl:=aN h;rw[hx.fU];exact .same S (by simp[convert,run_underlying kU,run_underlying pL,Conv.intToInt]) .int
     ·obtain ⟨hc,h⟩:=aD h;obtain rfl:=aN h;rw[hx.fU];exact .same S (run_convert_int_string w src dst _ _ (by simp[kU]) pL) (.str (alu hc))
    ·cases d2<;>(try (cases h;done))
     rename_i u;cases jg:aW P A.aE ty sl x<;>rw[jg] at h hx<;>simp only at h<;>first|(cases h;done)|skip
     rename_i id i c;obtain ⟨l,h1⟩:=run_get h;cases ae:hp id with
     | none=>rw[ae] at h1;cases h1
     | some blk=>
      rw[ae] at h1;cases blk<;>simp only at h1<;>first|(cases h1;done)|skip
      rename_i T cs;obtain ⟨h2,h3⟩:=aD h1;simp only[aK,aM] at h2;obtain ⟨rfl,h4,h5⟩:=h2;obtain ⟨b,hb,e1⟩:=hx.je ae (by simp);obtain rfl:=aN h3;obtain ⟨j,hj⟩:=A6.1 h4;have dk:=hx;rw[e1] at dk⊢;exact .same S (Lib.run_from_unsafe w _ kU pL hj (ki ae hb) (by grind)) dk
    ·cases d2<;>(try (cases h;done))
     rename_i t;cases jg:aW P A.aE ty sl x<;>rw[jg] at h hx<;>simp only at h<;>first|(cases h;done)|skip
     rename_i id i c;obtain ⟨l,h1⟩:=run_get h;cases ae:hp id with
     | none=>rw[ae] at h1;cases h1
     | some blk=>
      rw[ae] at h1;cases blk<;>simp only at h1<;>first|(cases h1;done)|skip
      rename_i T cs;obtain ⟨h2,h3⟩:=aD h1;simp only[aK,aM,mZ] at h2;obtain ⟨rfl,h4,h5⟩:=h2;obtain ⟨b,hb,e1⟩:=hx.je ae (by simp);obtain rfl:=aN h3;cases hj:P.info? t with
      | none=>grind
      | some j=>
       rw[hj] at h5;simp only[nc] at h5;have h6:j.size≠0:=fun e=>by simp_all
       have dk:=hx;rw[e1] at dk⊢;exact .same S (Lib.run_to_unsafe w _ kU pL hj h6 (ki ae hb) (by grind)) dk
    ·rename_i e;cases d2<;>(try (cases h;done))
     simp only at h;cases he:P.underlying e with
     | none=>rw[he] at h;cases h
     | some d3=>
      rw[he] at h;cases d3<;>(try (cases h;done))
      rename_i k;cases k<;>(try (cases h;done))
      exact als S kU he pL hx h
 case fieldAddr s x f=>exact .val rfl (ahl S (hs.ev hg ty x) h)
 case field s x f=>exact .val rfl (akX S (hs.ev hg ty x) h)
 case indexAddr t x y=>exact .val rfl (ak6 S (hs.ev hg ty x) (hs.ev hg 0 y) h)
 case index t x y=>
  have hx:=hs.ev hg ty x;have hy:=hs.ev hg 0 y;refine .val (s:=Instr.index t (a.eval x) (a.eval y)) rfl ?_;cases hu:P.underlying t with
  | none=>rw[hu] at h;cases h
  | some d=>
   rw[hu] at h;cases d<;>(try (cases h;done))
   ·cases jg:aW P A.aE ty sl x<;>rw[jg] at h hx<;>(try (cases h;done))
    cases ua:aW P A.aE 0 sl y<;>rw[ua] at h hy<;>(try (cases h;done))
    obtain ⟨s,e1,l1⟩:=hx.oG;rw[e1,hy.fU];exact akZ S hu l1 h
   ·cases jg:aW P A.aE ty sl x<;>rw[jg] at h hx<;>(try (cases h;done))
    cases ua:aW P A.aE 0 sl y<;>rw[ua] at h hy<;>(try (cases h;done))
    rw[hy.fU];exact ak0 S hu hx h
 case slice t x lo hi mx=>
  cases mx with
  | some m=>
   simp only at h;refine .val (s:=Instr.sliceAt t (a.eval x) (lo.map a.eval) (hi.map a.eval) (some (a.eval m))) (by simp[execOp]) (ak3 S (hs.ev hg ty x) (fun hy=> ?_) (fun y hy=> ?_) (fun y hy=> ?_) h)
   ·simp_all
   ·cases hi with
    | none=>cases hy
    | some l=>cases hy;exact ⟨_,rfl,hs.ev hg 0 l⟩
   ·cases hy;exact ⟨_,rfl,hs.ev hg 0 m⟩
  | none=>
   simp only at h;have plain:(JJ P t (aW P A.aE ty sl x) (lo.map (aW P A.aE 0 sl)) (hi.map (aW P A.aE 0 sl))).run C hp=some (r,rd)→sx P ((execOp a.eval ⟨dst,.slice t x lo hi none,ty,pos,after,guard⟩).run P w) w I β hp B M w0 r:=by
    intro h;refine .val (s:=Instr.sliceAt t (a.eval x) (lo.map a.eval) (hi.map a.eval) none) (by simp[execOp]) (ak2 S (hs.ev hg ty x) (fun y hy=> ?_) (fun y hy=> ?_) (fun hy=> ?_) (fun hy=> ?_) h)
    ·cases lo with
     | none=>cases hy
     | some l=>cases hy;exact ⟨_,rfl,hs.ev hg 0 l⟩
    ·cases hi with
     | none=>cases hy
     | some l=>cases hy;exact ⟨_,rfl,hs.ev hg 0 l⟩
    all_goals simp_all
   have tr:(JK P nb t (aW P A.aE ty sl x) (lo.map (aW P A.aE 0 sl)) (hi.map (aW P A.aE 0 sl))).run C hp=some (r,rd)→sx P ((execOp a.eval ⟨dst,.slice t x lo hi none,ty,pos,after,guard⟩).run P w) w I β hp B M w0 r:=by
    intro h;refine .val (s:=Instr.sliceAt t (a.eval x) (lo.map a.eval) (hi.map a.eval) none) (by simp[execOp]) (ak7 S (hs.ev hg ty x) (fun y hy=> ?_) (fun hy=> ?_) h)
    ·cases hi with
     | none=>cases hy
     | some l=>cases hy;exact ⟨_,rfl,hs.ev hg 0 l⟩
    simp_all
   grind
 case extract x i=>
  have hx:=hs.ev hg ty x;cases jg:aW P A.aE ty sl x<;>rw[jg] at h hx<;>simp only at h<;>first|(cases h;done)|skip
  exact .val (s:=Instr.extract (a.eval x) i) rfl (akY S hx h)
 case makeSlice t l c=>
  have hl:=hs.ev hg 0 l;have hc:=hs.ev hg 0 c;refine .val (s:=Instr.makeSlice t (a.eval l) (a.eval c)) rfl ?_;cases hu:P.underlying t with
  | none=>rw[hu] at h;cases h
  | some d=>
   rw[hu] at h;cases d<;>(try (cases h;done))
   cases RC:aW P A.aE 0 sl l<;>rw[RC] at h hl<;>(try (cases h;done))
   cases zf:aW P A.aE 0 sl c<;>rw[zf] at h hc<;>(try (cases h;done))
   rw[hl.fU,hc.fU];cases dst with
   | none=>exact ZC S hu h
   | some d=>
    simp only at h;cases hg:iN A.sb d with
    | true=>rw[hg] at h;exact akH S hu h
    | false=>rw[hg] at h;exact ZC S hu h
 case call c=>
  obtain ⟨callee,args,argTypes⟩:=c;cases callee with
  | invoke r m=>cases h
  | value f=>
   cases f with
   | func f=>cases RB
   | tmp f=>cases RB
   | _=>cases h
  | builtin b=>
   have one: ∀{x:Operand},args.toList=[x]→args= #[x]:=fun h=>by grind
   have vI: ∀(s:Array TypeId→TypeId→Array Value→Sem Value),builtin b argTypes ty (args.map fun| .const _=>true|_=>false) (args.map a.eval)=(do Pure.pure (Next.value (←s argTypes ty (args.map a.eval))))→
     execOp a.eval ⟨dst,.call ⟨.builtin b,args,argTypes⟩,ty,pos,after,guard⟩=(do Pure.pure (Next.value (←s argTypes ty (args.map a.eval)))):=by
    intro s hb;simp only[execOp,resolve,pure_bind,invoke];exact hb
   cases b<;>(try (cases h;done))
   case append=>
    simp only at h;cases ha:args.toList with
    | nil=>rw[ha] at h;cases h
    | cons x l=>
     cases l with
     | nil=>rw[ha] at h;cases h
     | cons y l2=>
      cases l2 with
      | cons _ _=>rw[ha] at h;cases h
      | nil=>
       cases fT:argTypes.toList with
       | nil=>rw[ha,fT] at h;cases h
       | cons t l3=>
        cases l3 with
        | nil=>rw[ha,fT] at h;cases h
        | cons u l4=>
         cases l4 with
         | cons _ _=>rw[ha,fT] at h;cases h
         | nil=>
          rw[ha,fT] at h;simp only at h;have e1:args= #[x,y]:=by grind
          have e2:argTypes= #[t,u]:=by grind
          cases hu:P.underlying t with
          | none=>rw[hu] at h;cases h
          | some d=>
           rw[hu] at h;cases d<;>(try (cases h;done))
           cases hc:Nat.beq t u with
           | true=>
            rw[hc] at h;rw[aM] at hc;subst hc;simp only[cond_true] at h;refine .val (vI Builtin.append_ rfl) ?_;rw[e1,e2];cases dst with
            | none=>
             have:=ZJ (ty:=ty) S hu (hs.ev hg t x) (hs.ev hg t y) h;grind
            | some d=>
             simp only at h;cases tU:iN A.sb d with
             | true=>
              rw[tU] at h;have:=akQ (ty:=ty) S hu (hs.ev hg t x) (hs.ev hg t y) h;grind
             | false=>
              rw[tU] at h;have:=ZJ (ty:=ty) S hu (hs.ev hg t x) (hs.ev hg t y) h;grind
           | false=>
            rw[hc] at h;simp only[cond_false] at h;have hy:=hs.ev hg u y;cases sO:P.underlying u with
            | none=>rw[sO] at h;cases h
            | some du=>
             rw[sO] at h;cases du<;>(try (cases h;done))
             cases ua:aW P A.aE u sl y<;>rw[ua] at h hy<;>(try (cases h;done))
             simp only at h;obtain ⟨hb,h⟩:=aD h;obtain ⟨s1,q1,q2⟩:=hy.oG;subst q2;have:=alq (ty:=ty) S hu sO (alC hb) (hs.ev hg t x) h;refine .val (vI Builtin.append_ rfl) ?_;grind
   case len=>
    simp only at h;cases ha:args.toList with
    | nil=>rw[ha] at h;cases h
    | cons x l=>
     cases l with
     | cons _ _=>rw[ha] at h;cases h
     | nil=>
      cases fT:argTypes.toList with
      | nil=>rw[ha,fT] at h;cases h
      | cons t l3=>
       cases l3 with
       | cons _ _=>rw[ha,fT] at h;cases h
       | nil=>
        rw[ha,fT] at h;simp only at h;have e1:args= #[x]:=by grind
        have e2:argTypes= #[t]:=by grind
        have hx:=hs.ev hg ty x;refine .val (vI Builtin.len_ rfl) ?_;rw[e1,e2];cases hu:P.underlying t with
        | none=>rw[hu] at h;cases h
        | some d=>
         rw[hu] at h;cases d<;>(try (cases h;done))
         ·cases jg:aW P A.aE ty sl x<;>rw[jg] at h hx<;>(try (cases h;done))
          have:=Xh (t:=t) (ty:=ty) S hx (fun l hl=>hu) (fun hn=>absurd rfl (hn _)) h;grind
         ·have h2:(∀l,aW P A.aE ty sl x≠ .str l)∧(JD P (aW P A.aE ty sl x)).run C hp=some (r,rd):=by
           cases jg:aW P A.aE ty sl x<;>rw[jg] at h<;>first|(cases h;done)|exact ⟨fun l=>by simp,h⟩
          have:=Xh (t:=t) (ty:=ty) S hx (fun l hl=>absurd hl (h2.1 l)) (fun _=>⟨_,hu⟩) h2.2;grind
         ·have h2:(JI (aW P A.aE ty sl x)).run C hp=some (r,rd):=by
           omega
          have:=alj (t:=t) (ty:=ty) S hu hx h2;grind
   case unsafeSliceData=>
    simp only at h;cases ha:args.toList with
    | nil=>rw[ha] at h;cases h
    | cons x l=>
     cases l with
     | cons _ _=>rw[ha] at h;cases h
     | nil=>
      rw[ha] at h;simp only at h;have e1:args= #[x]:=by grind
      have hx:=hs.ev hg ty x;refine .val (vI Builtin.unsafeSliceData_ rfl) ?_;rw[e1];cases jg:aW P A.aE ty sl x<;>rw[jg] at h hx<;>simp only at h<;>first|(cases h;done)|skip
      rename_i e id;obtain ⟨l2,h1⟩:=run_get h;cases ae:hp id with
      | none=>rw[ae] at h1;cases h1
      | some blk=>
       rw[ae] at h1;cases blk<;>simp only at h1<;>first|(cases h1;done)|skip
       rename_i e' es fz;obtain ⟨h2,h3⟩:=aD h1;simp only[aK,aM,mZ] at h2;obtain ⟨rfl,h4⟩:=h2;obtain rfl:=aN h3;have:=alD (ts:=argTypes) (ty:=ty) S hx ae h4;grind
   case unsafeString=>
    simp only at h;cases ha:args.toList with
    | nil=>rw[ha] at h;cases h
    | cons x l=>
     cases l with
     | nil=>rw[ha] at h;cases h
     | cons y l2=>
      cases l2 with
      | cons _ _=>rw[ha] at h;cases h
      | nil=>
       cases fT:argTypes.toList with
       | nil=>rw[ha,fT] at h;cases h
       | cons t l3=>
        cases l3 with
        | nil=>rw[ha,fT] at h;cases h
        | cons u l4=>
         cases l4 with
         | cons _ _=>rw[ha,fT] at h;cases h
         | nil=>
          rw[ha,fT] at h;simp only at h;have e1:args= #[x,y]:=by grind
          have e2:argTypes= #[t,u]:=by grind
          have hx:=hs.ev hg ty x;have hy:=hs.ev hg ty y;cases hu:P.underlying t with
          | none=>rw[hu] at h;cases h
          | some d=>
           rw[hu] at h;cases d<;>(try (cases h;done))
           rename_i e;cases jg:aW P A.aE ty sl x<;>rw[jg] at h hx<;>(try (cases h;done))
           cases ua:aW P A.aE ty sl y<;>rw[ua] at h hy<;>(try (cases h;done))
           rename_i id i c k n;cases k<;>(try (cases h;done))
           simp only at h;obtain ⟨l2,h1⟩:=run_get h;cases ae:hp id with
           | none=>rw[ae] at h1;cases h1
           | some blk=>
            rw[ae] at h1;cases blk<;>simp only at h1<;>first|(cases h1;done)|skip
            rename_i e' es fz;cases fz<;>simp only at h1<;>first|(cases h1;done)|skip
            obtain ⟨h2,h3⟩:=aD h1;simp only[aK,aM,gb,jQ] at h2;obtain ⟨rfl,h4,rfl,rfl,h5,h6,h7,h8⟩:=h2;obtain rfl:=aN h3;have:=alI (u:=u) (ty:=ty) S hu h4 hx ae h5 h6 h7 h8;refine .val (vI Builtin.unsafeString_ rfl) ?_;rw[e1,e2];simpa[hy.fU] using this
   case copy=>
    simp only at h;cases ha:args.toList with
    | nil=>rw[ha] at h;cases h
    | cons x l=>
     cases l with
     | nil=>rw[ha] at h;cases h
     | cons y l2=>
      cases l2 with
      | cons _ _=>rw[ha] at h;cases h
      | nil=>
       cases fT:argTypes.toList with
       | nil=>rw[ha,fT] at h;cases h
       | cons t l3=>
        cases l3 with
        | nil=>rw[ha,fT] at h;cases h
        | cons u l4=>
         cases l4 with
         | cons _ _=>rw[ha,fT] at h;cases h
         | nil=>
          rw[ha,fT] at h;simp only at h;have e1:args= #[x,y]:=by grind
          have e2:argTypes= #[t,u]:=by grind
          cases hu:P.underlying t with
          | none=>rw[hu] at h;cases h
          | some d=>
           rw[hu] at h;cases d<;>(try (cases h;done))
           have:=akN (u:=u) (ty:=ty) S hu (hs.ev hg t x) (hs.ev hg u y) h;refine .val (vI Builtin.copy_ rfl) ?_;grind
   case clear=>
    simp only at h;cases ha:args.toList with
    | nil=>rw[ha] at h;cases h
    | cons x l=>
     cases l with
     | cons _ _=>rw[ha] at h;cases h
     | nil=>
      cases fT:argTypes.toList with
      | nil=>rw[ha,fT] at h;cases h
      | cons t l3=>
       cases l3 with
       | cons _ _=>rw[ha,fT] at h;cases h
       | nil=>
        rw[ha,fT] at h;simp only at h;have e1:args= #[x]:=by grind
        have e2:argTypes= #[t]:=by grind
        cases hu:P.underlying t with
        | none=>rw[hu] at h;cases h
        | some d=>
         rw[hu] at h;cases d<;>(try (cases h;done))
         have:=akO (ty:=ty) S hu (hs.ev hg t x) h;refine .val (vI Builtin.clear_ rfl) ?_;grind
   case max=>
    simp only at h;cases ha:args.toList with
    | nil=>rw[ha] at h;cases h
    | cons x l=>
     rw[ha] at h;simp only at h;have:=Rh S true (vs:=l.map a.eval) (xs:=l.map (aW P A.aE ty sl)) (hs.ev hg ty x) (by simp) (fun j u y hu hy=>by
      simp only[kf] at hu hy;cases hl:l[j]? with
      | none=>grind
      | some z=>rw[hl] at hu hy;cases hu;cases hy;exact hs.ev hg ty z) h
     refine .val (vI Builtin.max_ rfl) ?_;simpa[Builtin.max_,ha] using this
   case min=>
    simp only at h;cases ha:args.toList with
    | nil=>rw[ha] at h;cases h
    | cons x l=>
     rw[ha] at h;simp only at h;have:=Rh S false (vs:=l.map a.eval) (xs:=l.map (aW P A.aE ty sl)) (hs.ev hg ty x) (by simp) (fun j u y hu hy=>by
      simp only[kf] at hu hy;cases hl:l[j]? with
      | none=>grind
      | some z=>rw[hl] at hu hy;cases hu;cases hy;exact hs.ev hg ty z) h
     refine .val (vI Builtin.min_ rfl) ?_;simpa[Builtin.min_,ha] using this
end
section
variable {P:Program} {A:dw} {w w':World} {I I' I2:Nat→Nat→Prop} {μ β β':Nat→Option Nat} {hp hp':Nat→Option ah} {C:af} {B:Nat} {M:Nat→Prop} {w0:Start}
theorem zk: ∀{l m:List Nat},gf.rh l m=true→l=m
 | [],[],_=>rfl
 | [],_::_,h=>by cases h
 | _::_,[],h=>by cases h
 | a::l,b::m,h=>by
  simp only[gf.rh,aK,aM] at h;rw[h.1,zk h.2]
@[simp] theorem Z9 (n:Nat):oD (gu n)=n:=by simp[oD,gu,V.toInt]
theorem LP: ∀(path:List (Nat×Nat)) (rest:List V),En (path.map (·.2)) ((path.map fun p=>gu p.1)++rest)=path
 | [],_=>rfl
 | p::l,rest=>by
  simp only[lu,List.cons_append,En,V.nth,Z9,List.drop_succ_cons,wx,LP l rest]
theorem LQ {l:LS} {x:V} {ds:List V} (h:gf l x=some ds):ds.length=l.size∧(l= .uN∨∀rest,lx l (ds++rest)=x):=by
 cases l with
 | uN=>simp only[gf,fi] at h;subst h;exact ⟨rfl,.inl rfl⟩
 | int k=>
  cases x<;>simp only[gf] at h<;>first|(cases h;done)|skip
  rename_i k' n;by_cases hk:k=k'
  ·subst hk;simp only[decide_true,cond_true,fi] at h;subst h;exact ⟨rfl,.inr fun _=>rfl⟩
  grind
 | bool=>
  cases x<;>simp only[gf] at h<;>first|(cases h;done)|skip
  cases h;exact ⟨rfl,.inr fun _=>rfl⟩
 | str=>
  cases x<;>simp only[gf] at h<;>first|(cases h;done)|skip
  cases h;exact ⟨rfl,.inr fun _=>rfl⟩
 | list e=>
  cases x<;>simp only[gf] at h<;>first|(cases h;done)|skip
  rename_i e' es;cases hb:Nat.beq e e' with
  | false=>grind
  | true=>
   rw[hb] at h;rw[aM] at hb;subst hb;cases h;exact ⟨rfl,.inr fun _=>rfl⟩
 | whole e j=>
  cases x<;>simp only[gf] at h<;>first|(cases h;done)|skip
  rename_i e' id;cases hb:(Nat.beq e e'&&Nat.beq j id) with
  | false=>grind
  | true=>
   rw[hb] at h;simp only[aK,aM] at hb;obtain ⟨rfl,rfl⟩:=hb;cases h;exact ⟨rfl,.inr fun _=>rfl⟩
 | sub e j=>
  cases x<;>simp only[gf] at h<;>first|(cases h;done)|skip
  rename_i e' id o n;cases hb:(Nat.beq e e'&&Nat.beq j id) with
  | false=>grind
  | true=>
   rw[hb] at h;simp only[aK,aM] at hb;obtain ⟨rfl,rfl⟩:=hb;cases h;exact ⟨rfl,.inr fun _=>by simp[lx,V.nth]⟩
 | ptr j=>
  cases x<;>simp only[gf] at h<;>first|(cases h;done)|skip
  rename_i id i c;cases hb:(Nat.beq j id) with
  | false=>grind
  | true=>
   rw[hb] at h;rw[aM] at hb;subst hb;cases h;exact ⟨rfl,.inr fun _=>by simp[lx,V.nth]⟩
 | aG j i c=>
  cases x<;>simp only[gf] at h<;>first|(cases h;done)|skip
  rename_i id i' c';cases hb:(Nat.beq j id&&(Nat.beq i i'&&Nat.beq c c')) with
  | false=>grind
  | true=>
   rw[hb] at h;simp only[aK,aM] at hb;obtain ⟨rfl,rfl,rfl⟩:=hb;cases h;exact ⟨rfl,.inr fun _=>rfl⟩
 | nilS e=>
  cases x<;>simp only[gf] at h<;>first|(cases h;done)|skip
  rename_i e';cases hb:Nat.beq e e' with
  | false=>grind
  | true=>
   rw[hb] at h;rw[aM] at hb;subst hb;cases h;exact ⟨rfl,.inr fun _=>rfl⟩
 | nl e=>
  cases x<;>simp only[gf] at h<;>first|(cases h;done)|skip
  rename_i e' es;cases hb:Nat.beq e e' with
  | false=>grind
  | true=>
   rw[hb] at h;rw[aM] at hb;subst hb;cases h;exact ⟨rfl,.inr fun _=>rfl⟩
 | eG=>
  cases x<;>simp only[gf] at h<;>first|(cases h;done)|skip
  cases h;exact ⟨rfl,.inr fun _=>rfl⟩
 | cY e j=>
  cases x<;>simp only[gf] at h<;>first|(cases h;done)|skip
  rename_i e' id;cases hb:(Nat.beq e e'&&Nat.beq j id) with
  | false=>grind
  | true=>
   rw[hb] at h;simp only[aK,aM] at hb;obtain ⟨rfl,rfl⟩:=hb;cases h;exact ⟨rfl,.inr fun _=>rfl⟩
 | fk e=>
  cases x<;>simp only[gf] at h<;>first|(cases h;done)|skip
  rename_i e';cases hb:Nat.beq e e' with
  | false=>grind
  | true=>
   rw[hb] at h;rw[aM] at hb;subst hb;cases h;exact ⟨rfl,.inr fun _=>rfl⟩
 | Bd k n=>
  cases x<;>simp only[gf] at h<;>first|(cases h;done)|skip
  rename_i k' m;cases hb:(decide (k=k')&&decide (m=n)) with
  | false=>grind
  | true=>
   rw[hb] at h;simp only[aK,jQ] at hb;obtain ⟨rfl,rfl⟩:=hb;cases h;exact ⟨rfl,.inr fun _=>rfl⟩
 | Jv b=>
  cases x<;>simp only[gf] at h<;>first|(cases h;done)|skip
  rename_i c;cases hb:decide (b=c) with
  | false=>grind
  | true=>
   rw[hb] at h;obtain rfl:=D0 hb;cases h;exact ⟨rfl,.inr fun _=>rfl⟩
 | row e j cs=>
  cases x<;>simp only[gf] at h<;>first|(cases h;done)|skip
  rename_i e' id ver path;cases hb:(Nat.beq e e'&&(Nat.beq j id&&(Nat.beq ver 0&&gf.rh cs (path.map (·.2))))) with
  | false=>grind
  | true=>
   rw[hb] at h;simp only[aK,aM] at hb;obtain ⟨rfl,rfl,rfl,sy⟩:=hb;have:=zk sy;subst this;cases h;exact ⟨by simp[LS.size],.inr fun rest=>by simp only[lx,LP]⟩
 | dI j cs c=>
  cases x<;>simp only[gf] at h<;>first|(cases h;done)|skip
  rename_i id ver path i c';cases hb:(Nat.beq j id&&(Nat.beq ver 0&&(Nat.beq c c'&&gf.rh cs (path.map (·.2))))) with
  | false=>grind
  | true=>
   rw[hb] at h;simp only[aK,aM] at hb;obtain ⟨rfl,rfl,rfl,sy⟩:=hb;have:=zk sy;subst this;cases h;exact ⟨by simp[LS.size],.inr fun rest=>by simp only[lx,List.cons_append,V.nth,Z9,List.drop_succ_cons,wx,LP]⟩
def LS.below (n:Nat) (x:V):Prop:= ∀id∈fN x,id<n
def aaa:V→Prop
 | .agg _=>False
 | .bf _=>False
 | .fn .. =>False
 | .pref .. =>False
 | _=>True
theorem zl {c:Bool} {a d:List V} (h:(bif c then some a else none)=some d):c=true:=by
 grind
theorem alL {l:LS} {x:V} {ds:List V} {n:Nat} (h:gf l x=some ds) (hl:l≠ .uN) (ao:l.ok n=true):aaa x∧LS.below n x:=by
 cases l<;>cases x<;>simp only[gf] at h<;>first|(cases h;done)|(exact absurd rfl hl)|skip
 all_goals refine ⟨trivial,fun id ae=> ?_⟩
 all_goals simp only[fN,fL,mC] at ae
 all_goals subst ae
 all_goals simp only[LS.ok,mZ] at ao
 all_goals
  have hb:=zl h;simp_all
theorem aj.alM {v:Value} {x:V} (h:aj P w I β hp v x) (hx:aaa x) (hs: ∀id∈fN x,hp' id=hp id∧β' id=β id):aj P w I β' hp' v x:=by
 have one: ∀{id},id∈fN x→hp' id=hp id∧β' id=β id:=fun h=>hs _ h;cases h with
 | undef=>exact .undef
 | int=>exact .int
 | bool=>exact .bool
 | str h=>exact .str h
 | list h=>exact .list h
 | nilS=>exact .nilS
 | nl h h0=>exact .nl h h0
 | agg=>exact hx.elim
 | bf=>exact hx.elim
 | eG=>exact .eG
 | fn=>exact hx.elim
 | pref=>exact hx.elim
 | eb h=>exact .eb ((one (by simp[fN])).1.trans h)
 | jF h=>exact .jF ((one (by simp[fN])).1.trans h)
 | mH h=>exact .mH ((one (by simp[fN])).1.trans h)
 | dX h hb=>exact .dX ((one (by simp[fN])).1.trans h) ((one (by simp[fN])).2.trans hb)
 | whole h hb a b c=>exact .whole ((one (by simp[fN])).1.trans h) ((one (by simp[fN])).2.trans hb) a b c
 | dP h hb a b c=>exact .dP ((one (by simp[fN])).1.trans h) ((one (by simp[fN])).2.trans hb) a b c
 | eh h hb=>exact .eh ((one (by simp[fN])).1.trans h) ((one (by simp[fN])).2.trans hb)
 | fF h hb a b c=>exact .fF ((one (by simp[fN])).1.trans h) ((one (by simp[fN])).2.trans hb) a b c
 | jb h hb=>exact .jb ((one (by simp[fN])).1.trans h) ((one (by simp[fN])).2.trans hb)
 | sub h hb a b c=>exact .sub ((one (by simp[fN])).1.trans h) ((one (by simp[fN])).2.trans hb) a b c
 | ptr h hd hb=>exact .ptr ((one (by simp[fN])).1.trans h) hd ((one (by simp[fN])).2.trans hb)
 | mI h vB=>exact .mI ((one (by simp[fN])).1.trans h) vB
 | mJ h vB=>exact .mJ ((one (by simp[fN])).1.trans h) vB
 | row h hb a b c d=>exact .row ((one (by simp[fN])).1.trans h) ((one (by simp[fN])).2.trans hb) a b c d
 | dI h hb a b c d e=>exact .dI ((one (by simp[fN])).1.trans h) ((one (by simp[fN])).2.trans hb) a b c d e
 | fk=>exact .fk
 | lC h=>exact .lC ((one (by simp[fN])).1.trans h)
 | cY h hb=>exact .cY ((one (by simp[fN])).1.trans h) ((one (by simp[fN])).2.trans hb)
theorem LR {a b:List V} {n:Nat} (h:a.length=n):(a++b).drop n=b:=by subst h;simp
def Gv (n:Nat) (β:Nat→Option Nat) (hp:Nat→Option ah) (β':Nat→Option Nat) (hp':Nat→Option ah):Prop:= ∀id,id<n→hp' id=hp id∧β' id=β id
theorem aab {l:LS} {x:V} {ds:List V} {n:Nat} {v:Value} (h:gf l x=some ds) (ao:l.ok n=true) (kD:Gv n β hp β' hp') (hv:aj P w I β hp v x) (rest:List V):
  aj P w I β' hp' v (lx l (ds++rest)):=by
 rcases (LQ h).2 with e|e
 ·subst e;exact .undef
 ·rw[e rest];by_cases hu:l= .uN
  ·subst hu;have:x= .undef:=(e rest).symm;subst this;exact .undef
  ·obtain ⟨h1,h2⟩:=alL h hu ao;exact hv.alM h1 fun id ae=>kD id (h2 id ae)
theorem Gw {n:Nat} (kD:Gv n β hp β' hp'): ∀{ls:List LS} {xs:List V} {ds:List V},tt ls xs=some ds→ls.all (LS.ok n)=true→
  ds.length=ni ls∧(∀rest,(iZ ls (ds++rest)).length=xs.length)∧
  ∀(rest:List V) (j:Nat) (v:Value) (y:V),(∀x,xs[j]? =some x→aj P w I β hp v x)→(iZ ls (ds++rest))[j]? =some y→aj P w I β' hp' v y
 | [],[],ds,h,_=>by cases h;exact ⟨rfl,fun _=>rfl,fun rest j v y _ hy=>by simp[iZ] at hy⟩
 | [],_::_,ds,h,_=>by cases h
 | _::_,[],ds,h,_=>by cases h
 | l::ls,x::xs,ds,h,ao=>by
  simp only[tt] at h;obtain ⟨a,h1,h⟩:=bind_some h;obtain ⟨b,h2,h⟩:=bind_some h;cases h;simp only[List.all_cons,aK] at ao;obtain ⟨i1,i2,i3⟩:=Gw kD h2 ao.2;have dv:=(LQ h1).1;have hd: ∀rest,(a++b++rest).drop l.size=b++rest:=fun rest=>by grind
  refine ⟨by simp only[iA,ni];omega,fun rest=>by simp only[iZ,List.length_cons,hd,i2],fun rest j v y hv hy=> ?_⟩;simp only[iZ,hd] at hy;cases j with
  | zero=>
   simp at hy;subst hy;exact aab h1 ao.1 kD (hv x rfl) _
  | succ j=>grind
theorem RD: ∀{ls:List LS} {xs:List V} {ds:List V},tt ls xs=some ds→ls.all LS.plain=true→ds.length=ni ls∧∀rest,iZ ls (ds++rest)=xs
 | [],[],ds,h,_=>by cases h;exact ⟨rfl,fun _=>rfl⟩
 | [],_::_,ds,h,_=>by cases h
 | _::_,[],ds,h,_=>by cases h
 | l::ls,x::xs,ds,h,ao=>by
  simp only[tt] at h;obtain ⟨a,h1,h⟩:=bind_some h;obtain ⟨b,h2,h⟩:=bind_some h;cases h;simp only[List.all_cons,aK] at ao;obtain ⟨i1,i2⟩:=RD h2 ao.2;obtain ⟨dv,hm⟩:=LQ h1;refine ⟨by simp only[iA,ni];omega,fun rest=> ?_⟩;simp only[iZ];rw[show (a++b++rest).drop l.size=b++rest by grind,i2,kJ];rcases hm with e|e
  ·subst e;cases ao.1
  ·rw[e]
theorem RE {n:Nat} (kD:Gv n β hp β' hp') {s:VS} {x:V} {ds:List V} (h:tu s x=some ds) (ao:s.ok n=true):
  ds.length=s.size∧∀(rest:List V) (v:Value),aj P w I β hp v x→aj P w I β' hp' v (nZ s (ds++rest)):=by
 cases s with
 | one l=>exact ⟨(LQ h).1,fun rest v hv=>aab h ao kD hv rest⟩
 | agg ls=>
  cases x<;>simp only[tu] at h<;>first|(cases h;done)|skip
  rename_i xs;obtain ⟨i1,i2,i3⟩:=Gw (P:=P) (w:=w) (I:=I) kD h ao;refine ⟨i1,fun rest v hv=> ?_⟩;obtain ⟨cs,rfl,e1,e2⟩:=hv.np;exact .agg (by grind) fun j v y hj hy=>i3 rest j v y (fun x hx=>e2 j v x hj hx) hy
 | bf ls=>
  cases x<;>simp only[tu] at h<;>first|(cases h;done)|skip
  rename_i xs;obtain ⟨i1,i2,i3⟩:=Gw (P:=P) (w:=w) (I:=I) kD h ao;refine ⟨i1,fun rest v hv=> ?_⟩;obtain ⟨cs,rfl,e1,e2⟩:=hv.yB;exact .bf (by grind) fun j v y hj hy=>i3 rest j v y (fun x hx=>e2 j v x hj hx) hy
 | fn f a b=>
  cases x<;>simp only[tu] at h<;>first|(cases h;done)|skip
  rename_i f' xs ys;cases hb:Nat.beq f f' with
  | false=>grind
  | true=>
   rw[hb] at h;rw[aM] at hb;subst hb;simp only[cond_true] at h;obtain ⟨p,h1,h⟩:=bind_some h;obtain ⟨q,h2,h⟩:=bind_some h;cases h;simp only[VS.ok,aK] at ao;obtain ⟨i1,i2,i3⟩:=Gw (P:=P) (w:=w) (I:=I) kD h1 ao.1;obtain ⟨j1,j2,j3⟩:=Gw (P:=P) (w:=w) (I:=I) kD h2 ao.2;refine ⟨by simp only[iA,VS.size];omega,fun rest v hv=> ?_⟩;cases hv with
   | fn a1 a2 b1 b2=>
    simp only[nZ];rw[show (p++q++rest).drop (ni a)=q++rest by grind,kJ];exact .fn (by grind) (fun j v y hj hy=>i3 _ j v y (fun x hx=>a2 j v x hj hx) hy) (by grind) (fun j v y hj hy=>j3 _ j v y (fun x hx=>b2 j v x hj hx) hy)
 | pref ts ls=>
  cases x<;>simp only[tu] at h<;>first|(cases h;done)|skip
  rename_i tv xs;cases hb:gf.rh ts tv with
  | false=>grind
  | true=>
   rw[hb] at h;have:=zk hb;subst this;simp only[cond_true] at h;refine ⟨?_,fun rest v hv=> ?_⟩
   ·exact (RD h ao).1
   ·simp only[nZ];rw[(RD h ao).2];cases hv with
    | pref hl hI hc=>exact .pref hl hI hc
theorem Gx {n:Nat} (kD:Gv n β hp β' hp'): ∀{ls:List VS} {xs:List V} {ds:List V},uH ls xs=some ds→ls.all (VS.ok n)=true→
  ds.length=wP ls∧(∀rest,(jB ls (ds++rest)).length=xs.length)∧
  ∀(rest:List V) (j:Nat) (v:Value) (y:V),(∀x,xs[j]? =some x→aj P w I β hp v x)→(jB ls (ds++rest))[j]? =some y→aj P w I β' hp' v y
 | [],[],ds,h,_=>by cases h;exact ⟨rfl,fun _=>rfl,fun rest j v y _ hy=>by simp[jB] at hy⟩
 | [],_::_,ds,h,_=>by cases h
 | _::_,[],ds,h,_=>by cases h
 | l::ls,x::xs,ds,h,ao=>by
  simp only[uH] at h;obtain ⟨a,h1,h⟩:=bind_some h;obtain ⟨b,h2,h⟩:=bind_some h;cases h;simp only[List.all_cons,aK] at ao;obtain ⟨i1,i2,i3⟩:=Gx kD h2 ao.2;obtain ⟨dv,qq⟩:=RE (P:=P) (w:=w) (I:=I) kD h1 ao.1;have hd: ∀rest,(a++b++rest).drop l.size=b++rest:=fun rest=>by grind
  refine ⟨by simp only[iA,wP];omega,fun rest=>by simp only[jB,List.length_cons,hd,i2],fun rest j v y hv hy=> ?_⟩;simp only[jB,hd] at hy;grind
end
section
variable {P:Program} {A:dw} {w w':World} {I I' I2:Nat→Nat→Prop} {μ β β':Nat→Option Nat} {hp hp' hp0:Nat→Option ah} {C:af} {B:Nat} {M:Nat→Prop} {w0:Start}
theorem ld: ∀{l:List ah} {j:Nat},nj l j=l[j]?
 | [],j=>by simp[nj]
 | b::l,0=>rfl
 | b::l,j+1=>by simp only[nj,ld,List.getElem?_cons_succ]
theorem RF {sl:Nat→V} {k:Nat} {y:V}: ∀{l:List (Nat×VS)} {ds:List V},El sl l=some ds→(∀p∈l,∀d,tu p.2 (sl p.1)=some d→d.length=p.2.size)→
  ds.length=sd l∧∀rest,fM (ja l (ds++rest)) k=some y→∃s d ka,(k,s)∈l∧tu s (sl k)=some d∧y=nZ s (d++ka)
 | [],ds,h,_=>by cases h;exact ⟨rfl,fun rest h=>by cases h⟩
 | (q,s)::l,ds,h,hz=>by
  simp only[El] at h;obtain ⟨a,h1,h⟩:=bind_some h;obtain ⟨b,h2,h⟩:=bind_some h;cases h;obtain ⟨i1,i2⟩:=RF (k:=k) (y:=y) h2 fun p hp=>hz p (ju _ hp);have dv:=hz (q,s) (o5 ..) a h1;refine ⟨by simp only[iA,sd];simp only at dv;omega,fun rest hl=> ?_⟩;simp only[ja,fM] at hl;rw[show (a++b++rest).drop s.size=b++rest by rw[kJ];exact LR dv] at hl;cases hb:Nat.beq k q with
  | true=>
   rw[hb] at hl;rw[aM] at hb;subst hb;cases hl;exact ⟨s,a,b++rest,o5 ..,h1,by rw[kJ]⟩
  | false=>
   rw[hb] at hl;obtain ⟨s',d,ka,m1,m2,m3⟩:=i2 rest hl;exact ⟨s',d,ka,ju _ m1,m2,m3⟩
theorem RH {α:Type} {c:Bool} {x:Option α} {a:α} (h:(bif c then x else none)=some a):c=true∧x=some a:=by
 cases c with
 | true=>exact ⟨rfl,h⟩
 | false=>cases h
theorem alN {n:Nat} {b:BS} {o:Option ah} {ds:List V} (h:oE b o=some ds) (ao:b.ok n=true):ds.length=b.size:=by
 cases b with
 | dead=>cases o<;>(cases h;rfl)
 | var T0 ls=>
  cases o with
  | none=>cases h
  | some blk=>
   cases blk<;>simp only[oE] at h<;>first|(cases h;done)|skip
   exact (Gx (P:=default) (w:=default) (I:=fun _ _=>False) (β:=fun _=>none) (hp:=fun _=>none) (fun _ _=>⟨rfl,rfl⟩) (RH h).2 ao).1
 | arr e fz=>
  cases o with
  | none=>cases h
  | some blk=>
   cases blk<;>simp only[oE] at h<;>first|(cases h;done)|skip
   rw[zl h] at h;cases h;rfl
 | nest e=>
  cases o with
  | none=>cases h
  | some blk=>
   cases blk<;>simp only[oE] at h<;>first|(cases h;done)|skip
   rw[zl h] at h;cases h;rfl
 | map t=>
  cases o with
  | none=>cases h
  | some blk=>
   cases blk<;>simp only[oE] at h<;>first|(cases h;done)|skip
   rw[zl h] at h;cases h;rfl
theorem aac {n:Nat}: ∀{l:List BS} {j:Nat} {ds:List V},Em hp j l=some ds→l.all (BS.ok n)=true→
  (∀rest,(im l (ds++rest)).length=l.length)∧∀(rest:List V) (i:Nat) (blk:ah),(im l (ds++rest))[i]? =some blk→∃b d ka,l[i]? =some b∧b.ok n=true∧oE b (hp (j+i))=some d∧blk=iO b (d++ka)
 | [],j,ds,h,_=>by cases h;exact ⟨fun _=>rfl,fun rest i blk hb=>by simp[im] at hb⟩
 | b::l,j,ds,h,ao=>by
  simp only[Em] at h;obtain ⟨a,h1,h⟩:=bind_some h;obtain ⟨c,h2,h⟩:=bind_some h;cases h;simp only[List.all_cons,aK] at ao;obtain ⟨i1,i2⟩:=aac h2 ao.2;have dv:=alN h1 ao.1;have hd: ∀rest,(a++c++rest).drop b.size=c++rest:=fun rest=>by rw[kJ];exact LR dv
  refine ⟨fun rest=>by simp only[im,List.length_cons,hd,i1],fun rest i blk hb=> ?_⟩;simp only[im,hd] at hb;cases i with
  | zero=>
   simp at hb;exact ⟨b,a,c++rest,rfl,ao.1,h1,by rw[←hb]⟩
  | succ i=>
   obtain ⟨b',d,ka,m1,m2,m3,m4⟩:=i2 rest i blk (by simpa using hb);exact ⟨b',d,ka,by simpa using m1,m2,by rw[show j+(i+1)=j+1+i by omega];exact m3,m4⟩
theorem alO {n:Nat} {b:BS} {blk:ah} {ds rest:List V} (h:oE b (some blk)=some ds) (ao:b.ok n=true):
  blk.le (iO b (ds++rest))∧(iO b (ds++rest)= .dead∨iO b (ds++rest)=blk∨∃T ls cs,b= .var T ls∧blk= .var T cs∧uH ls cs=some ds∧iO b (ds++rest)= .var T (jB ls (ds++rest))):=by
 cases b with
 | dead=>exact ⟨by cases blk<;>trivial,.inl rfl⟩
 | var T0 ls=>
  cases blk<;>simp only[oE] at h<;>first|(cases h;done)|skip
  obtain ⟨hT,h0⟩:=RH h;clear h;rw[aM] at hT;subst hT;exact ⟨rfl,.inr (.inr ⟨_,_,_,rfl,rfl,h0,rfl⟩)⟩
 | arr e fz=>
  cases blk<;>simp only[oE] at h<;>first|(cases h;done)|skip
  rename_i e' es pe;have hb:=zl h;simp only[aK,aM,beq_iff_eq] at hb;obtain ⟨rfl,rfl⟩:=hb;simp only[nX,beq_self_eq_true,Bool.and_self,cond_true,fi] at h;subst h;exact ⟨⟨rfl,rfl⟩,.inr (.inl rfl)⟩
 | nest e=>
  cases blk<;>simp only[oE] at h<;>first|(cases h;done)|skip
  rename_i e' es vers;have hb:=zl h;simp only[aK,aM] at hb;obtain ⟨rfl,hv⟩:=hb;have:=zk hv;subst this;simp only[nX,Bool.true_and] at h;cases h;exact ⟨⟨rfl,rfl,rfl,fun _=>az _⟩,.inr (.inl rfl)⟩
 | map t=>
  cases blk<;>simp only[oE] at h<;>first|(cases h;done)|skip
  rename_i t' es;have hb:=zl h;rw[aM] at hb;subst hb;simp only[nX,cond_true,fi] at h;subst h;exact ⟨rfl,.inr (.inl rfl)⟩
theorem aad {m:Nat} {S:Shape} {st:St} {ds:List V} (h:mb m S st=some ds):
  S.ok=true∧m≤S.c7.length∧∃a b,El st.sl S.cx=some a∧Em st.hp 0 S.c7=some b∧ds=a++b:=by
 unfold mb at h;cases hc:(S.ok&&Nat.ble m S.c7.length) with
 | false=>rw[hc] at h;cases h
 | true=>
  rw[hc] at h;simp only[cond_true] at h;simp only[aK,gb] at hc;obtain ⟨a,h1,h⟩:=bind_some h;obtain ⟨b,h2,h⟩:=bind_some h;cases h;exact ⟨hc.1,hc.2,a,b,h1,h2,rfl⟩
theorem reshape {m:Nat} {S:Shape} {st:St} {ds:List V} (h:mb m S st=some ds) (hS:aC P w I β st.hp B M w0):
  aC P w I β (bQ S ds).hp B M w0∧(∀(k:Nat) (v:Value),aj P w I β st.hp v (st.sl k)→aj P w I β (bQ S ds).hp v ((bQ S ds).sl k))∧
  (∀(μ:Nat→Option Nat) (hp0:Nat→Option ah),(∀id blk,hp0 id=some blk→id<m)→Le P w0.w w0.I μ hp0 w I β st.hp→Le P w0.w w0.I μ hp0 w I β (bQ S ds).hp)∧
  ∀j blk',(bQ S ds).hp j=some blk'→blk'≠ .dead→∃blk,st.hp j=some blk∧blk.le blk'∧∀o b,bh P w o blk' b→bh P w o blk b:=by
 obtain ⟨ao,hm,a,b,h1,h2,rfl⟩:=aad h;unfold Shape.ok at ao;rw[aK] at ao;obtain ⟨oL,ZO⟩:=ao;have bd: ∀p∈S.cx,∀d,tu p.2 (st.sl p.1)=some d→d.length=p.2.size:=fun p hp d hd=>
  (RE (P:=P) (w:=w) (I:=I) (β:=β) (hp:=st.hp) (fun _ _=>⟨rfl,rfl⟩) hd (ig.1 oL p hp)).1
 have dv:a.length=sd S.cx:=(RF (k:=0) (y:= .undef) h1 bd).1;have LD:(bQ S (a++b)).hp=nj (im S.c7 (b++[])):=by
  simp only[bQ,mk,rY];rw[LR dv]
 obtain ⟨bl,bg⟩:=aac h2 ZO;have get: ∀j blk',(bQ S (a++b)).hp j=some blk'→j<S.c7.length∧∃bs d ka,bs.ok S.c7.length=true∧oE bs (st.hp j)=some d∧blk'=iO bs (d++ka):=by
  intro j blk' hj;rw[LD,ld] at hj;obtain ⟨bs,d,ka,m1,m2,m3,m4⟩:=bg [] j blk' hj;rw[dL] at m3;exact ⟨(cC.1 m1).1,bs,d,ka,m2,m3,m4⟩
 have have': ∀j,j<S.c7.length→∃blk',(bQ S (a++b)).hp j=some blk':=by
  intro j hj;rw[LD,ld];exact ⟨_,b7 (by rw[bl];exact hj)⟩
 generalize gh:(bQ S (a++b)).hp=zm at*
 let bP:Nat→Option ah:=fun id=>if id<S.c7.length then zm id else st.hp id
 have back: ∀j blk',zm j=some blk'→blk'≠ .dead→∃blk,st.hp j=some blk∧blk.le blk'∧(blk'=blk∨∃T ls cs d ka,ls.all (VS.ok S.c7.length)=true∧blk= .var T cs∧uH ls cs=some d∧blk'= .var T (jB ls (d++ka))):=by
  intro j blk' hj hd;obtain ⟨dr,bs,d,ka,m1,m2,m3⟩:=get j blk' hj;cases cS:st.hp j with
  | none=>
   rw[cS] at m2;cases bs<;>simp only[oE] at m2<;>first|(cases m2;done)|skip
   exact absurd m3 hd
  | some blk=>
   rw[cS] at m2;obtain ⟨n1,n2⟩:=alO (rest:=ka) m2 m1;rw[←m3] at n1 n2;refine ⟨blk,rfl,n1,?_⟩;rcases n2 with e|e|⟨T,ls,cs,e1,e2,e3,e4⟩
   ·exact absurd e hd
   ·exact .inl e
   ·subst e1;exact .inr ⟨T,ls,cs,d,ka,m1,e2,e3,e4⟩
 have le1: ∀j blk,st.hp j=some blk→j<S.c7.length→∃blk',zm j=some blk'∧blk.le blk':=by
  intro j blk hj dr;obtain ⟨blk',au⟩:=have' j dr;refine ⟨blk',au,?_⟩;by_cases hd:blk'= .dead
  ·subst hd;cases blk<;>trivial
  ·obtain ⟨cI,e1,e2,_⟩:=back j blk' au hd;rw[hj] at e1;cases e1;exact e2
 have alP: ∀j e es vers e' aL vers',st.hp j=some (.nest e es vers)→zm j=some (.nest e' aL vers')→e'=e∧aL=es∧vers'=vers:=by
  intro j e es vers e' aL vers' hj fV;obtain ⟨blk,e1,_,e3⟩:=back j _ fV (by simp);rw[hj] at e1;cases e1;rcases e3 with e3|⟨_,_,_,_,_,_,e3,_⟩
  ·cases e3;exact ⟨rfl,rfl,rfl⟩
  ·cases e3
 have hle:Le P w I β st.hp w I β bP:=by
  refine ⟨fun _ _ h=>h,fun _ _ _=>rfl,fun id blk ae=> ?_,fun _ _ _ _ _ _ _ _=>rfl,Le.u6 (fun _ _ _ _ _ _=>rfl) fun id e es vers e' aL vers' ae bX=> ?_⟩
  ·by_cases hl:id<S.c7.length
   ·obtain ⟨blk',e1,e2⟩:=le1 id blk ae hl;exact ⟨blk',by simp only[bP,aA hl];exact e1,e2,fun _=>rfl⟩
   ·exact ⟨blk,by simp only[bP,aw hl];exact ae,ah.le_refl _,fun _=>rfl⟩
  ·by_cases hl:id<S.c7.length
   ·simp only[bP,aA hl] at bX;exact alP _ _ _ _ _ _ _ ae bX
   ·simp only[bP,aw hl] at bX;rw[ae] at bX;cases bX;exact ⟨rfl,rfl,rfl⟩
 have kD:Gv S.c7.length β bP β zm:=fun id ae=>⟨by simp only[bP,aA ae],rfl⟩
 have sw: ∀j blk' blk o b,zm j=some blk'→st.hp j=some blk→bh P w o blk' b→bh P w o blk b:=by
  intro j blk' blk o b fV hj ho;obtain ⟨cI,e1,_,e3⟩:=back j blk' fV ho.alive;rw[hj] at e1;cases e1;rcases e3 with e3|⟨T,ls,cs,d,ka,_,e3,_,e5⟩
  ·subst e3;exact ho
  ·subst e3;subst e5;exact .root (by simp) (ho.flat (by simp))
 refine ⟨⟨⟨fun j blk' hj=> ?_,fun j1 j2 b1 b2 b' e1 e2 o1 o2=> ?_,fun j blk b' hj ho=> ?_,hS.h.jV⟩,hS.cQ,hS.size,hS.new,hS.io⟩,fun k v hv=> ?_,fun μ hp0 aR hE=> ?_,fun j blk' hj hd=> ?_⟩
 ·by_cases hd:blk'= .dead
  ·subst hd;exact .dead
  ·obtain ⟨blk,e1,_,e3⟩:=back j blk' hj hd;have hr:=hS.h.rel j blk e1;generalize β j=o at hr;rcases e3 with e3|⟨T0,ls,cs,d,ka,q1,e3,e4,e5⟩
   ·subst e3;cases hr with
    | @var xs b' Ca T hb hh hs dp hx iQ=>
     obtain ⟨dr,bs,d,ka,m1,m2,m3⟩:=get j _ hj;rw[e1] at m2;cases bs<;>simp only[oE] at m2<;>first|(cases m2;done)|skip
     ·rename_i T0 ls;simp only[iO] at m3;obtain ⟨hT,m2⟩:=RH m2;obtain ⟨i1,i2,i3⟩:=Gx (P:=P) (w:=w) (I:=I) kD m2 m1;injection m3 with m4 m3;rw[m3];exact .var hb hh (by rw[i2];exact hs) dp (fun i v y hi hy=>i3 ka i v y (fun x dk=>(hx i v x hi dk).mono hle) hy) iQ
     ·simp only[iO] at m3;cases m3
    | ez hb=>exact .ez hb
    | arr a0 a1 a2 a3 a4 a5 a6 a7=>exact .arr a0 a1 a2 a3 a4 a5 a6 a7
    | dead=>exact absurd rfl hd
    | nest a1 a2 a3=>exact .nest a1 a2 a3
    | jc a1=>exact .jc a1
    | out a1 a2 a3 a4 a5 a6 a7 a8 a9 a10=>exact .out a1 a2 a3 a4 a5 a6 a7 a8 a9 a10
    | map a1 a2 a3 a4 a5 a6 a7=>exact .map a1 a2 a3 a4 a5 a6 a7
   ·subst e3;subst e5;cases hr with
    | @var xs b' Ca T hb hh hs dp hx iQ=>
     obtain ⟨i1,i2,i3⟩:=Gx (P:=P) (w:=w) (I:=I) kD e4 q1;exact .var hb hh (by rw[i2];exact hs) dp (fun i v y hi hy=>i3 ka i v y (fun x dk=>(hx i v x hi dk).mono hle) hy) iQ
 ·obtain ⟨c1,x1,_,_⟩:=back j1 b1 e1 o1.alive;obtain ⟨c2,x2,_,_⟩:=back j2 b2 e2 o2.alive;exact hS.h.inj j1 j2 c1 c2 b' x1 x2 (sw _ _ _ _ _ e1 x1 o1) (sw _ _ _ _ _ e2 x2 o2)
 ·obtain ⟨c1,x1,_,_⟩:=back j blk hj ho.alive;exact hS.h.own j c1 b' x1 (sw _ _ _ _ _ hj x1 ho)
 ·change aj P w I β zm v (mG (ja S.cx (a++b)) k);unfold mG;cases FW:fM (ja S.cx (a++b)) k with
  | none=>exact .undef
  | some y=>
   obtain ⟨s,d,ka,n1,n2,n3⟩:=(RF h1 bd).2 b FW;simp only[Option.getD_some,n3];exact (RE (P:=P) (w:=w) (I:=I) kD n2 (ig.1 oL _ n1)).2 ka v (hv.mono hle)
 ·have h3:=hE.trans hle;refine ⟨h3.ej,h3.cQ,fun id blk ae=> ?_,fun id blk blk' b' ae bX hd hb=> ?_,fun id e es vers e' aL vers' b2 q i c t v e1 l ae bX=> ?_⟩
  ·have hl:=aR id blk ae;obtain ⟨blk',k1,k2,k3⟩:=h3.blk id blk ae;simp only[bP,aA (show id<S.c7.length by omega)] at k1;exact ⟨blk',k1,k2,k3⟩
  ·have hl:=aR id blk ae;exact h3.size id blk blk' b' ae (by simp only[bP,aA (show id<S.c7.length by omega)];exact bX) hd hb
  ·have hl:=aR id _ ae;exact h3.row id e es vers e' aL vers' b2 q i c t v e1 l ae (by simp only[bP,aA (show id<S.c7.length by omega)];exact bX)
 ·obtain ⟨blk,e1,e2,_⟩:=back j blk' hj hd;exact ⟨blk,e1,e2,fun o b' ho=>sw _ _ _ _ _ hj e1 ho⟩
end
section
variable {P:Program} {A:dw} {w w':World} {I I' I2:Nat→Nat→Prop} {μ β β':Nat→Option Nat} {hp hp' hp0:Nat→Option ah} {C:af} {B:Nat} {M:Nat→Prop} {w0:Start}
inductive gm (P:Program) (w:World) (β:Nat→Option Nat) (hp:Nat→Option ah):Place→Option Nat→ah→Prop
 | var {id:Nat} {T:TypeId} {cs RI:List V}:hp id=some (.var T cs)→gm P w β hp (.blk id) (β id) (.var T RI)
 | arr {id:Nat} {e:TypeId} {es:List V} {fz:Bool}:hp id=some (.arr e es fz)→gm P w β hp (.blk id) (β id) (.arr e es fz)
 | nest {id:Nat} {e:TypeId} {es:List V} {vers:List Nat}:hp id=some (.nest e es vers)→gm P w β hp (.blk id) (β id) (.nest e es [0,0,0])
 | row {id ver b b':Nat} {path:Path} {e0 e':TypeId} {es l:List V} {vers:List Nat}:hp id=some (.nest e0 es vers)→β id=some b→At P w b e0 es path b' e' l→Ek P e'=true→
   0<path.length→path.length≤vers.length→bB vers (path.length-1)=ver→0<l.length→gm P w β hp (.row id ver path) (some b') (.arr e' l false)
 | map {id:Nat} {t:TypeId} {es:List V}:hp id=some (.map t es)→gm P w β hp (.blk id) (β id) (.map t es)
def Gy (P:Program) (w:World) (β:Nat→Option Nat) (hp:Nat→Option ah) (ρ:List Place) (μ:Nat→Option Nat) (hp0:Nat→Option ah):Prop:=
 ∀j p,gv ρ j=some p→∃blk,hp0 j=some blk∧gm P w β hp p (μ j) blk
theorem sP: ∀{l m:List Place} {j:Nat} {p:Place},gv l j=some p→gv (l++m) j=some p
 | [],m,j,p,h=>by cases h
 | a::l,m,0,p,h=>h
 | a::l,m,j+1,p,h=>sP (l:=l) h
theorem pM: ∀{l:List Place} {j:Nat},gv l j=l[j]?
 | [],j=>by simp[gv]
 | a::l,0=>rfl
 | a::l,j+1=>by simp only[gv,pM,List.getElem?_cons_succ]
def alQ (hp:Nat→Option ah) (q:Nat×ah):Prop:=Bs hp q∨∃T cs,q.2= .var T cs∧hp q.1=some (.var T cs)
structure Ext (P:Program) (w:World) (I:Nat→Nat→Prop) (β:Nat→Option Nat) (hp:Nat→Option ah) (h h':Hand) (d:List V) (u:List (Nat×ah)):Prop where
 ds:h'.ds=h.ds++d
 upd:h'.upd=h.upd++u
 LU: ∀q∈u,alQ hp q
 pl: ∃m,h'.pl=h.pl++m
 nodup:(h.pl.map Place.id).Nodup→(h'.pl.map Place.id).Nodup
theorem Ext.refl (h:Hand):Ext P w I β hp h h [] []:=⟨by simp,by simp,by simp,⟨[],by simp⟩,id⟩
theorem Ext.trans {h1 h2 h3:Hand} {d1 d2:List V} {u1 u2:List (Nat×ah)} (a:Ext P w I β hp h1 h2 d1 u1) (b:Ext P w I β hp h2 h3 d2 u2):Ext P w I β hp h1 h3 (d1++d2) (u1++u2):=by
 obtain ⟨m1,e1⟩:=a.pl;obtain ⟨m2,e2⟩:=b.pl;exact ⟨by rw[b.ds,a.ds,kJ],by rw[b.upd,a.upd,kJ],fun q hq=>(fb.1 hq).elim (a.LU q) (b.LU q),⟨m1++m2,by rw[e2,e1,kJ]⟩,fun h=>b.nodup (a.nodup h)⟩
theorem Ext.look {h h':Hand} {d:List V} {u:List (Nat×ah)} (a:Ext P w I β hp h h' d u) {j:Nat} {p:Place} (hj:gv h.pl j=some p):gv h'.pl j=some p:=by
 obtain ⟨m,e⟩:=a.pl;rw[e];exact sP hj
theorem Ext.leaf (h:Hand) (x:V):Ext P w I β hp h {h with ds:=h.ds++[x]} [x] []:=⟨rfl,by simp,by simp,⟨[],by simp⟩,id⟩
theorem alR {α:Type} {ρ:List Place} {j:Nat} {p:Place} {k:List Place→Rd α} {r:α} {rd:List Nat} (h:(unify ρ j p k).run C hp=some (r,rd)) (hb: ∃id,p= .blk id∨∃ver path,p= .row id ver path):
  ∃nL,(k nL).run C hp=some (r,rd)∧(∃m,nL=ρ++m)∧gv nL j=some p∧((ρ.map Place.id).Nodup→(nL.map Place.id).Nodup):=by
 unfold unify at h;cases hc:Nat.blt j ρ.length with
 | true=>
  rw[hc] at h;obtain ⟨h1,h2⟩:=aD h;refine ⟨ρ,h2,⟨[],by simp⟩,?_,id⟩;unfold WY at h1;split at h1
  ·rename_i a b he;rw[aM] at h1;subst h1;exact he
  ·cases h1
 | false=>
  rw[hc] at h;obtain ⟨h1,h2⟩:=aD h;simp only[aK,aM,nc] at h1;obtain ⟨rfl,h3⟩:=h1;refine ⟨ρ++[p],h2,⟨[p],rfl⟩,?_,fun hn=> ?_⟩
  ·rw[pM];simp
  ·rw[tk,Eb];refine ⟨hn,by simp,fun a ha b hb=> ?_⟩;simp only[lu,List.map_nil,fL] at hb;subst hb;intro e;subst e;rw[yG ha] at h3;cases h3
theorem zn {α:Type} {h:Hand} {j:Nat} {p:Place} {k:List Place→Rd α} {r:α} {rd:List Nat} (hr:(unify h.pl j p k).run C hp=some (r,rd)) (ds:List V):
  ∃nL,(k nL).run C hp=some (r,rd)∧gv nL j=some p∧Ext P w I β hp h {h with pl:=nL,ds:=h.ds++ds} ds []:=by
 obtain ⟨nL,a,b,c,d⟩:=alR hr (by cases p with|blk id=>exact ⟨id,.inl rfl⟩|row id ver path=>exact ⟨id,.inr ⟨ver,path,rfl⟩⟩);exact ⟨nL,a,c,⟨rfl,by simp,by simp,b,d⟩⟩
theorem alS {o:Option Nat} {blk:ah} {e:TypeId} {id j:Nat} {v:Value} (hv:aj P w I β hp v (.whole e id)) (hl:gm P w β hp (.blk id) o blk) (hj:hp0 j=some blk) (mV:μ j=o):aj P w I' μ hp0 v (.whole e j):=by
 cases hl with
 | var h=>
  cases hv with
  | eb h2=>rw[h] at h2;cases h2
  | dX h2=>rw[h] at h2;cases h2
  | whole h2=>rw[h] at h2;cases h2
  | dP h2=>rw[h] at h2;cases h2
  | eh h2=>rw[h] at h2;cases h2
  | fF h2=>rw[h] at h2;cases h2
 | arr h=>
  cases hv with
  | eb h2=>rw[h] at h2;cases h2
  | dX h2 hb=>rw[h] at h2;cases h2;exact .dX hj (mV.trans hb)
  | whole h2 hb a b c=>rw[h] at h2;cases h2;exact .whole hj (mV.trans hb) a b c
  | dP h2=>rw[h] at h2;cases h2
  | eh h2=>rw[h] at h2;cases h2
  | fF h2=>rw[h] at h2;cases h2
 | nest h=>
  cases hv with
  | eb h2=>rw[h] at h2;cases h2
  | dX h2=>rw[h] at h2;cases h2
  | whole h2=>rw[h] at h2;cases h2
  | dP h2 hb a b c=>rw[h] at h2;cases h2;exact .dP hj (mV.trans hb) a b c
  | eh h2 hb=>rw[h] at h2;cases h2;exact .eh hj (mV.trans hb)
  | fF h2=>rw[h] at h2;cases h2
 | map h=>
  cases hv with
  | eb h2=>rw[h] at h2;cases h2
  | dX h2=>rw[h] at h2;cases h2
  | whole h2=>rw[h] at h2;cases h2
  | dP h2=>rw[h] at h2;cases h2
  | eh h2=>rw[h] at h2;cases h2
  | fF h2=>rw[h] at h2;cases h2
theorem alT {o:Option Nat} {blk:ah} {t:TypeId} {id j:Nat} {v:Value} (hv:aj P w I β hp v (.cY t id)) (hl:gm P w β hp (.blk id) o blk) (hj:hp0 j=some blk) (mV:μ j=o):aj P w I' μ hp0 v (.cY t j):=by
 cases hv with
 | lC h2=>cases hl<;>(rename_i h;rw[h] at h2;cases h2)
 | cY h2 hb=>
  cases hl<;>(rename_i h;rw[h] at h2;cases h2)
  exact .cY hj (mV.trans hb)
theorem alU {o:Option Nat} {blk:ah} {e:TypeId} {id off n j:Nat} {v:Value} (hv:aj P w I β hp v (.sub e id off n)) (hl:gm P w β hp (.blk id) o blk) (hj:hp0 j=some blk) (mV:μ j=o):aj P w I' μ hp0 v (.sub e j off n):=by
 cases hl with
 | var h=>
  cases hv with
  | jF h2=>rw[h] at h2;cases h2
  | jb h2=>rw[h] at h2;cases h2
  | sub h2=>rw[h] at h2;cases h2
 | arr h=>
  cases hv with
  | jF h2=>rw[h] at h2;cases h2
  | jb h2 hb=>rw[h] at h2;cases h2;exact .jb hj (mV.trans hb)
  | sub h2 hb a b c=>rw[h] at h2;cases h2;exact .sub hj (mV.trans hb) a b c
 | nest h=>
  cases hv with
  | jF h2=>rw[h] at h2;cases h2
  | jb h2=>rw[h] at h2;cases h2
  | sub h2=>rw[h] at h2;cases h2
 | map h=>
  cases hv with
  | jF h2=>rw[h] at h2;cases h2
  | jb h2=>rw[h] at h2;cases h2
  | sub h2=>rw[h] at h2;cases h2
theorem aae {o:Option Nat} {blk:ah} {id i c j:Nat} {v:Value} (hv:aj P w I β hp v (.ptr id i c)) (hl:gm P w β hp (.blk id) o blk) (hj:hp0 j=some blk) (mV:μ j=o):aj P w I' μ hp0 v (.ptr j i c):=by
 cases hl with
 | @var _ T0 cs RI h=>
  obtain ⟨b,hb,rfl⟩:=hv.je h (by simp);exact aj.ptr (blk:= .var T0 RI) hj (by simp) (mV.trans hb)
 | @arr _ e es fz h=>
  obtain ⟨b,hb,rfl⟩:=hv.je h (by simp);exact aj.ptr (blk:= .arr e es fz) hj (by simp) (mV.trans hb)
 | @nest _ e es vers h=>
  obtain ⟨b,hb,rfl⟩:=hv.je h (by simp);exact aj.ptr (blk:= .nest e es [0,0,0]) hj (by simp) (mV.trans hb)
 | @map _ t es h=>
  obtain ⟨b,hb,rfl⟩:=hv.je h (by simp);exact aj.ptr (blk:= .map t es) hj (by simp) (mV.trans hb)
theorem alV (cT: ∀id blk,hp id=some blk→fc P w I β hp (β id) blk) {id b i c:Nat} {e0 t:TypeId} {es l:List V} {vers:List Nat} {q:Path} {e:TypeId} {v:Value} (ae:hp id=some (.nest e0 es vers)) (hb:β id=some b)
  (ht:P.underlying t=some (.slice e)) (hc:qh P w b e0 es q i c t v (.list e l)) (hl:0<l.length): ∃b1 cap,v= .slice (some ⟨b1,0,none⟩) l.length cap∧cap*P.cellsOf e=bsize w b1∧l.length≤cap∧cap≤maxLen∧At P w b e0 es (q++[(i,c)]) b1 e l:=by
 obtain ⟨b2,e1,m,Ca,T,f,x,n1,n2,n3,n4,n5,n6⟩:=hc;have hr:=cT _ _ ae;cases hr with
 | jc au=>rw[hb] at au;cases au
 | nest au hr hn=>
  rw[hb] at au;cases au;have hR:=hr _ _ _ _ n1;obtain ⟨yz,_,c1,_,c2,c3⟩:=hR.cells;rw[n2] at c1;cases c1;have yA:c<P.cellsOf e1:=by rw[←fG hR.ok];exact (cC.1 n4).1
  obtain ⟨v',d1,d2⟩:=c3 i c x t n3 n4 yA;rw[n6] at d1;cases d1;rw[n5] at d2;generalize hy:V.list e l=y at d2;cases d2 with
  | gy a p=>unfold dY at a;rw[ht] at a;cases a
  | emp hu=>cases hy;simp at hl
  | row hu mL bd bR sq=>
   cases hy;exact ⟨_,_,rfl,bd,bR,sq,n1.snoc n2 n3 n4 ht n5 mL n6⟩
theorem alW (S:aC P w I β hp B M w0) {o:Option Nat} {blk:ah} {e:TypeId} {id ver j:Nat} {path:Path} {v:Value} (hv:aj P w I β hp v (.row e id ver path)) (hl:gm P w β hp (.row id ver path) o blk) (hj:hp0 j=some blk) (mV:μ j=o):aj P w I' μ hp0 v (.whole e j):=by
 cases hl with
 | row h hb ha hf h1 h2 h3 h4=>
  obtain ⟨b2,q,i,c,t,l2,rfl,eA,ht,hc⟩:=hv.Pu h h1 h2 h3;rw[hb] at eA;cases eA;obtain ⟨p1,p2⟩:=Pv ha;have gg:=hc;obtain ⟨b3,e3,m3,Ca,T,f,x,n1,n2,n3,n4,n5,n6⟩:=gg;obtain ⟨q1,q2⟩:=J0 n1 n3 n4 ht n5;rw[p1] at q1;rw[p2] at q2;cases q1;cases q2;obtain ⟨b1,cap,rfl,m1,m2,m4,m5⟩:=alV S.h.rel h hb ht hc h4;have:=alX ha m5;subst this;exact .whole hj mV m1 m2 m4
where
 alX {b b1 b2:Nat} {e e1 e2:TypeId} {es l l2:List V} {q:Path} (h:At P w b e es q b1 e1 l) (h2:At P w b e es q b2 e2 l2):b2=b1:=(h.fun h2).1
theorem aaf (S:aC P w I β hp B M w0) {α:Type} {l:LS} {x:V} {h:Hand} {k:Hand→Rd α} {r:α} {rd:List Nat} {v:Value} (hr:(JM P l x h k).run C hp=some (r,rd)) (hv:aj P w I β hp v x):
  ∃h' gU d u,(k h').run C hp=some (r,gU)∧Ext P w I β hp h h' d u∧d.length=l.size∧
   ∀(I':Nat→Nat→Prop) (μ:Nat→Option Nat) (hp0:Nat→Option ah),(∀b j,I b j→I' b j)→(∀q∈u,∀b j,wZ P w β hp q.1 b j→I' b j)→∀ρ m,ρ=h'.pl++m→Gy P w β hp ρ μ hp0→∀rest,aj P w I' μ hp0 v (lx l (d++rest)):=by
 have plain: ∀{x':V} {jL:List Nat},(k {h with ds:=h.ds++[x']}).run C hp=some (r,jL)→l.size=1→(∀I' μ hp0 rest,aj P w I' μ hp0 v (lx l ([x']++rest)))→∃h' gU d u,(k h').run C hp=some (r,gU)∧Ext P w I β hp h h' d u∧d.length=l.size∧
   ∀(I':Nat→Nat→Prop) (μ:Nat→Option Nat) (hp0:Nat→Option ah),(∀b j,I b j→I' b j)→(∀q∈u,∀b j,wZ P w β hp q.1 b j→I' b j)→∀ρ m,ρ=h'.pl++m→Gy P w β hp ρ μ hp0→∀rest,aj P w I' μ hp0 v (lx l (d++rest)):=
  fun hk hs hx=>⟨_,_,_,_,hk,Ext.leaf h _,hs.symm,fun I' μ hp0 _ _ _ _ _ _ rest=>hx I' μ hp0 rest⟩
 have tT: ∀{jL:List Nat},(k h).run C hp=some (r,jL)→l.size=0→(∀I' μ hp0 rest,aj P w I' μ hp0 v (lx l rest))→∃h' gU d u,(k h').run C hp=some (r,gU)∧Ext P w I β hp h h' d u∧d.length=l.size∧
   ∀(I':Nat→Nat→Prop) (μ:Nat→Option Nat) (hp0:Nat→Option ah),(∀b j,I b j→I' b j)→(∀q∈u,∀b j,wZ P w β hp q.1 b j→I' b j)→∀ρ m,ρ=h'.pl++m→Gy P w β hp ρ μ hp0→∀rest,aj P w I' μ hp0 v (lx l (d++rest)):=
  fun hk hs hx=>⟨_,_,_,_,hk,Ext.refl h,by simp[hs],fun I' μ hp0 _ _ _ _ _ _ rest=>hx I' μ hp0 rest⟩
 unfold JM at hr;cases l with
 | uN=>exact tT hr rfl fun _ _ _ _=> .undef
 | int kd=>
  cases x<;>simp only at hr<;>first|(cases hr;done)|skip
  obtain ⟨h1,h2⟩:=aD hr;simp only[jQ] at h1;subst h1;obtain rfl:=hv.fU;exact plain h2 rfl fun _ _ _ _=> .int
 | bool=>
  cases x<;>simp only at hr<;>first|(cases hr;done)|skip
  obtain rfl:=hv.nn;exact plain hr rfl fun _ _ _ _=> .bool
 | str=>
  cases x<;>simp only at hr<;>first|(cases hr;done)|skip
  obtain ⟨s,rfl,hl⟩:=hv.oG;exact plain hr rfl fun _ _ _ _=> .str hl
 | nilS e=>
  cases x<;>simp only at hr<;>first|(cases hr;done)|skip
  obtain ⟨h1,h2⟩:=aD hr;cases hv with
  | nilS=>exact tT h2 rfl fun _ _ _ _=> .nilS
 | nl e=>
  cases x<;>simp only at hr<;>first|(cases hr;done)|skip
  obtain ⟨h1,h2⟩:=aD hr;rw[aM] at h1;subst h1;cases hv with
  | nl a b=>exact ⟨_,_,_,_,h2,Ext.leaf h _,rfl,fun I' μ hp0 hI _ _ _ _ _ rest=> .nl (a.mono hI (fun _ _ _=>rfl)) b⟩
 | eG=>
  cases x<;>simp only at hr<;>first|(cases hr;done)|skip
  cases hv with
  | eG=>exact tT hr rfl fun _ _ _ _=> .eG
 | row e j cs=>
  cases x<;>simp only at hr<;>first|(cases hr;done)|skip
  rename_i e' id ver path;obtain ⟨e0,es,vers,l0,ae,p1,p2,p3,hr⟩:=rm hr;obtain ⟨h1,h2⟩:=aD hr;simp only[aK,aM,gb] at h1;obtain ⟨rfl,sy,hp3⟩:=h1;have:=zk sy;subst this;obtain ⟨nL,a,b,c⟩:=zn (P:=P) (w:=w) (I:=I) (β:=β) h2 (path.map fun p=>gu p.1);refine ⟨_,_,path.map fun p=>gu p.1,[],a,c,by simp[LS.size],fun I' μ hp0 i1 i2 ρ m eu cD rest=> ?_⟩;obtain ⟨blk,k1,k2⟩:=cD j _ (by rw[eu];exact sP b);obtain ⟨bb,q,i,cc,t,l,rfl,hb,ht,hc⟩:=hv.Pu ae p1 p2 p3;have su:blk= .nest e0 es [0,0,0]∧μ j=β id:=by
   generalize μ j=o at k2;cases k2 with
   | var h=>rw[ae] at h;cases h
   | arr h=>rw[ae] at h;cases h
   | map h=>rw[ae] at h;cases h
   | nest h=>rw[ae] at h;cases h;exact ⟨rfl,rfl⟩
  obtain ⟨rfl,mV⟩:=su;simp only[lx,LP];have hq:q.length<3:=by rw[iA,List.length_singleton] at hp3;omega
  refine .row k1 (mV.trans hb) (by simpa using hq) ?_ ht hc
  match q.length,hq with
  | 0,_=>rfl
  | 1,_=>rfl
  | 2,_=>rfl
 | dI j cs c=>cases hr
 | Bd k n=>cases hr
 | Jv b=>cases hr
 | fk t=>
  cases x<;>simp only at hr<;>first|(cases hr;done)|skip
  obtain ⟨h1,h2⟩:=aD hr;cases hv with
  | fk=>exact tT h2 rfl fun _ _ _ _=> .fk
 | cY t j=>
  cases x<;>simp only at hr<;>first|(cases hr;done)|skip
  rename_i t' id;obtain ⟨h1,h2⟩:=aD hr;rw[aM] at h1;subst h1;obtain ⟨nL,a,b,c⟩:=zn (P:=P) (w:=w) (I:=I) (β:=β) h2 [];refine ⟨_,_,[],[],a,by simpa using c,rfl,fun I' μ hp0 i1 i2 ρ m eu cD rest=> ?_⟩;obtain ⟨blk,k1,k2⟩:=cD j _ (by rw[eu];exact sP b);exact alT hv k2 k1 rfl
 | list e=>
  obtain ⟨⟨y,u⟩,l1,l2,h1,h2⟩:=oa hr;cases y<;>simp only at h2<;>first|(cases h2;done)|skip
  rename_i e' es;obtain ⟨h3,h4⟩:=aD h2;rw[aM] at h3;subst h3;obtain ⟨p1,p2⟩:=EK S.h.rel h1 hv;exact ⟨_,_,[.list e es],u,h4,⟨rfl,rfl,fun q hq=> .inl (p1 q hq),⟨[],by simp⟩,id⟩,rfl,fun I' μ hp0 i1 i2 _ _ _ _ rest=> .list (p2 I' i1 i2)⟩
 | whole e j=>
  cases x<;>simp only at hr<;>first|(cases hr;done)|skip
  ·rename_i e' id;obtain ⟨h1,h2⟩:=aD hr;rw[aM] at h1;subst h1;obtain ⟨nL,a,b,c⟩:=zn (P:=P) (w:=w) (I:=I) (β:=β) h2 [];refine ⟨_,_,[],[],a,by simpa using c,rfl,fun I' μ hp0 i1 i2 ρ m eu cD rest=> ?_⟩;obtain ⟨blk,k1,k2⟩:=cD j _ (by rw[eu];exact sP b);exact alS hv k2 k1 rfl
  ·rename_i e' id ver path;obtain ⟨h1,h2⟩:=aD hr;rw[aM] at h1;subst h1;obtain ⟨nL,a,b,c⟩:=zn (P:=P) (w:=w) (I:=I) (β:=β) h2 [];refine ⟨_,_,[],[],a,by simpa using c,rfl,fun I' μ hp0 i1 i2 ρ m eu cD rest=> ?_⟩;obtain ⟨blk,k1,k2⟩:=cD j _ (by rw[eu];exact sP b);exact alW S hv k2 k1 rfl
 | sub e j=>
  cases x<;>simp only at hr<;>first|(cases hr;done)|skip
  rename_i e' id o n;obtain ⟨h1,h2⟩:=aD hr;rw[aM] at h1;subst h1;obtain ⟨nL,a,b,c⟩:=zn (P:=P) (w:=w) (I:=I) (β:=β) h2 [gu o,gu n];refine ⟨_,_,[gu o,gu n],[],a,c,rfl,fun I' μ hp0 i1 i2 ρ m eu cD rest=> ?_⟩;obtain ⟨blk,k1,k2⟩:=cD j _ (by rw[eu];exact sP b);simpa[lx,V.nth] using alU (I':=I') hv k2 k1 rfl
 | ptr j=>
  cases x<;>simp only at hr<;>first|(cases hr;done)|skip
  rename_i id i c;obtain ⟨nL,a,b,c'⟩:=zn (P:=P) (w:=w) (I:=I) (β:=β) hr [gu i,gu c];refine ⟨_,_,[gu i,gu c],[],a,c',rfl,fun I' μ hp0 i1 i2 ρ m eu cD rest=> ?_⟩;obtain ⟨blk,k1,k2⟩:=cD j _ (by rw[eu];exact sP b);simpa[lx,V.nth] using aae (I':=I') hv k2 k1 rfl
 | aG j i c=>
  cases x<;>simp only at hr<;>first|(cases hr;done)|skip
  rename_i id i' c';obtain ⟨h1,h2⟩:=aD hr;simp only[aK,aM] at h1;obtain ⟨rfl,rfl⟩:=h1;obtain ⟨nL,a,b,c'⟩:=zn (P:=P) (w:=w) (I:=I) (β:=β) h2 [];refine ⟨_,_,[],[],a,by simpa using c',rfl,fun I' μ hp0 i1 i2 ρ m eu cD rest=> ?_⟩;obtain ⟨blk,k1,k2⟩:=cD j _ (by rw[eu];exact sP b);exact aae hv k2 k1 rfl
end
section
variable {P:Program} {A:dw} {w w':World} {I I' I2:Nat→Nat→Prop} {μ β β':Nat→Option Nat} {hp hp' hp0:Nat→Option ah} {C:af} {B:Nat} {M:Nat→Prop} {w0:Start}
def pN (P:Program) (w:World) (I:Nat→Nat→Prop) (β:Nat→Option Nat) (hp:Nat→Option ah) (h':Hand) (u:List (Nat×ah)) (K:(Nat→Nat→Prop)→(Nat→Option Nat)→(Nat→Option ah)→Prop):Prop:=
 ∀(I':Nat→Nat→Prop) (μ:Nat→Option Nat) (hp0:Nat→Option ah),(∀b j,I b j→I' b j)→(∀q∈u,∀b j,wZ P w β hp q.1 b j→I' b j)→∀ρ m,ρ=h'.pl++m→Gy P w β hp ρ μ hp0→K I' μ hp0
theorem pN.later {h h':Hand} {d:List V} {u u':List (Nat×ah)} {K:(Nat→Nat→Prop)→(Nat→Option Nat)→(Nat→Option ah)→Prop} (t:pN P w I β hp h u K) (e:Ext P w I β hp h h' d u'):pN P w I β hp h' (u++u') K:=by
 obtain ⟨m1,e1⟩:=e.pl;exact fun I' μ hp0 i1 i2 ρ m eu cD=>t I' μ hp0 i1 (fun q hq=>i2 q (fb.2 (.inl hq))) ρ (m1++m) (by grind) cD
theorem pN.more {h:Hand} {u u':List (Nat×ah)} {K:(Nat→Nat→Prop)→(Nat→Option Nat)→(Nat→Option ah)→Prop} (t:pN P w I β hp h u K):pN P w I β hp h (u'++u) K:=
 fun I' μ hp0 i1 i2 ρ m eu cD=>t I' μ hp0 i1 (fun q hq=>i2 q (fb.2 (.inr hq))) ρ m eu cD
theorem Gz (S:aC P w I β hp B M w0) {α:Type}: ∀{ls:List LS} {xs:List V} {h:Hand} {k:Hand→Rd α} {r:α} {rd:List Nat} {vs:List Value},(uS P ls xs h k).run C hp=some (r,rd)→vs.length=xs.length→
  (∀(j:Nat) v x,vs[j]? =some v→xs[j]? =some x→aj P w I β hp v x)→
  ∃h' gU d u,(k h').run C hp=some (r,gU)∧Ext P w I β hp h h' d u∧d.length=ni ls∧ls.length=xs.length∧
   pN P w I β hp h' u fun I' μ hp0=> ∀rest,(iZ ls (d++rest)).length=xs.length∧∀(j:Nat) v y,vs[j]? =some v→(iZ ls (d++rest))[j]? =some y→aj P w I' μ hp0 v y
 | [],[],h,k,r,rd,vs,hr,hl,hv=>⟨h,rd,[],[],hr,Ext.refl h,rfl,rfl,fun I' μ hp0 _ _ _ _ _ _ rest=>⟨rfl,fun j v y _ hy=>by grind⟩⟩
 | [],_::_,h,k,r,rd,vs,hr,hl,hv=>by cases hr
 | _::_,[],h,k,r,rd,vs,hr,hl,hv=>by cases hr
 | l::ls,x::xs,h,k,r,rd,vs,hr,hl,hv=>by
  cases vs with
  | nil=>simp at hl
  | cons v vs=>
   simp only[uS] at hr;obtain ⟨h1,jL,d1,u1,a1,a2,a3,a4⟩:=aaf S hr (hv 0 v x rfl rfl);obtain ⟨h2,xB,d2,u2,b1,b2,b3,b5,b4⟩:=Gz S a1 (by grind) (vs:=vs) (fun j v x hj hx=>hv (j+1) v x (by grind) (by grind));have a4':pN P w I β hp h1 u1 fun I' μ hp0=> ∀rest,aj P w I' μ hp0 v (lx l (d1++rest)):=a4;refine ⟨h2,xB,d1++d2,u1++u2,b1,a2.trans b2,by simp only[iA,ni];omega,by simp[b5],fun I' μ hp0 i1 i2 ρ m eu cD rest=> ?_⟩;have k1:=(a4'.later b2) I' μ hp0 i1 i2 ρ m eu cD (d2++rest);obtain ⟨k2,k3⟩:=b4.more I' μ hp0 i1 i2 ρ m eu cD rest;simp only[iZ];grind
theorem alY {t:TypeId} {v:Value} {y:V} (hv:aj P w I β hp v y) (h:fR P t y=true):Plain P w I v y:=by
 cases y with
 | int k n=>exact hv.fU
 | bool b=>exact hv.nn
 | str s=>obtain ⟨s',rfl,hs⟩:=hv.oG;exact ⟨s',rfl,hs⟩
 | list e es=>cases hv with
  | list hp'=>exact hp'
 | _=>unfold fR at h;grind
theorem aag: ∀{ts:List TypeId} {ls:List LS},Bl P ts ls=true→ts.length=ls.length∧∀(ds:List V) (j:Nat) t y,ts[j]? =some t→(iZ ls ds)[j]? =some y→fR P t y=true
 | [],[],_=>⟨rfl,fun ds j t y h=>by simp at h⟩
 | [],_::_,h=>by cases h
 | _::_,[],h=>by cases h
 | t::ts,l::ls,h=>by
  simp only[Bl,aK] at h;obtain ⟨h1,h2⟩:=aag h.2;refine ⟨by simp[h1],fun ds j t' y ht hy=> ?_⟩;cases j with
  | succ j=>exact h2 _ j t' y (by grind) (by simpa[iZ] using hy)
  | zero=>
   simp[iZ] at ht hy;subst ht;subst hy;have h:=h.1;unfold fR;split at h<;>simp_all [lx]
theorem alZ (S:aC P w I β hp B M w0) {α:Type} {s:VS} {x:V} {h:Hand} {k:Hand→Rd α} {r:α} {rd:List Nat} {v:Value} (hr:(Bm P s x h k).run C hp=some (r,rd)) (hv:aj P w I β hp v x):
  ∃h' gU d u,(k h').run C hp=some (r,gU)∧Ext P w I β hp h h' d u∧d.length=s.size∧
   pN P w I β hp h' u fun I' μ hp0=> ∀rest,aj P w I' μ hp0 v (nZ s (d++rest)):=by
 cases s with
 | one l=>
  simp only[Bm] at hr;obtain ⟨h1,jL,d1,u1,a1,a2,a3,a4⟩:=aaf S hr hv;exact ⟨h1,jL,d1,u1,a1,a2,a3,a4⟩
 | agg ls=>
  cases x<;>simp only[Bm] at hr<;>first|(cases hr;done)|skip
  rename_i xs;obtain ⟨cs,rfl,e1,e2⟩:=hv.np;obtain ⟨h1,jL,d1,u1,a1,a2,a3,a5,a4⟩:=Gz S hr (vs:=cs.toList) (by omega) (fun j v x hj hx=>e2 j v x (by grind) hx);refine ⟨h1,jL,d1,u1,a1,a2,a3,fun I' μ hp0 i1 i2 ρ m eu cD rest=> ?_⟩;obtain ⟨k1,k2⟩:=a4 I' μ hp0 i1 i2 ρ m eu cD rest;exact .agg (by omega) fun j v y hj hy=>k2 j v y (by grind) hy
 | bf ls=>cases x<;>cases hr
 | pref ts ls=>
  have cells: ∀{xs:List V} {vs:List Value} {h0:Hand} {rd0:List Nat},(uS P ls xs h0 k).run C hp=some (r,rd0)→vs.length=xs.length→Bl P ts ls=true→(∀(j:Nat) v x,vs[j]? =some v→xs[j]? =some x→aj P w I β hp v x)→
    ∃h' gU d u,(k h').run C hp=some (r,gU)∧Ext P w I β hp h0 h' d u∧d.length=ni ls∧ls.length=xs.length∧pN P w I β hp h' u fun I' μ hp0=> ∀rest,(iZ ls (d++rest)).length=xs.length∧ts.length=xs.length∧
     ∀(j:Nat) t v y,vs[j]? =some v→ts[j]? =some t→(iZ ls (d++rest))[j]? =some y→Pure P w I' t v y:=by
   intro xs vs h0 rd0 hr0 hl fe Qg;obtain ⟨h1,jL,d1,u1,a1,a2,a3,a5,a4⟩:=Gz S hr0 hl Qg;obtain ⟨t1,t2⟩:=aag fe;refine ⟨h1,jL,d1,u1,a1,a2,a3,a5,fun I' μ hp0 i1 i2 ρ m eu cD rest=> ?_⟩;obtain ⟨k1,k2⟩:=a4 I' μ hp0 i1 i2 ρ m eu cD rest;exact ⟨k1,t1.trans a5,fun j t v y hj ht hy=>(alY (k2 j v y hj hy) (t2 _ j t y ht hy)).pure (t2 _ j t y ht hy)⟩
  cases x<;>simp only[Bm] at hr<;>first|(cases hr;done)|skip
  ·rename_i id i c;obtain ⟨l0,vJ⟩:=run_get hr;clear hr;cases ae:hp id with
   | none=>rw[ae] at vJ;cases vJ
   | some blk=>
    rw[ae] at vJ;cases blk<;>simp only at vJ<;>first|(cases vJ;done)|skip
    rename_i T cs;obtain ⟨hc,qC⟩:=aD vJ;clear vJ;simp only[aK,aM,gb] at hc;obtain ⟨rfl,fe,hle⟩:=hc;obtain ⟨b,hb,rfl⟩:=hv.je ae (by simp);have cT:=S.h.rel id _ ae;rw[hb] at cT;cases cT with
    | @var _ _ Ca _ au hh hs hI hx _=>
    cases au;obtain ⟨h1,jL,d1,u1,a1,a2,a3,a5,a4⟩:=cells qC (vs:=(Ca.toList.drop c).take ls.length) (by simp;omega) fe (fun j v x hj dk=>by
     grind)
    refine ⟨h1,jL,d1,(id,.var T cs)::u1,a1,⟨a2.ds,by rw[a2.upd];simp,fun q hq=> ?_,a2.pl,a2.nodup⟩,a3,fun I' μ hp0 i1 i2 ρ m eu cD rest=> ?_⟩
    ·rcases fj.1 hq with rfl|hq
     ·exact .inr ⟨T,cs,rfl,ae⟩
     ·exact a2.LU q hq
    ·obtain ⟨k1,k2,k3⟩:=a4 I' μ hp0 i1 (fun q hq=>i2 q (ju _ hq)) ρ m eu cD rest;have hn:(iZ ls (d1++rest)).length=ls.length:=k1.trans a5.symm;simp only[nZ,ah.sz,D4,dL];refine .pref (k2.trans k1.symm) (fun j hj=>i2 _ (o5 ..) b (c+j) ⟨_,ae,.var hb (by omega)⟩) (fun j t y ht hy=> ?_);have hj:=(cC.1 hy).1;have sy:c+j<Ca.size:=by omega
     refine ⟨Ca[c+j],by rw[cell?_cells hh];grind,k3 j t _ y ?_ ht hy⟩;grind
  ·rename_i tv cs;obtain ⟨hc,qC⟩:=aD hr;clear hr;simp only[aK,gb] at hc;obtain ⟨hts,fe,hle⟩:=hc;have hts:=zk hts;obtain ⟨b,o,rfl,q1,q2,q3⟩:=hv.EP;have hg: ∀j,j<cs.length→∃v,w.cell? ⟨b,o+j,none⟩=some v∧∃t,tv[j]? =some t∧∀x,cs[j]? =some x→Pure P w I t v x:=fun j hj=>by
    simp_all
   let vs:List Value:=(List.range ls.length).map fun j=>(w.cell? ⟨b,o+j,none⟩).getD undef
   have Ka: ∀(j:Nat),j<ls.length→vs[j]? =some ((w.cell? ⟨b,o+j,none⟩).getD undef):=fun j hj=>by grind
   obtain ⟨h1,jL,d1,u1,a1,a2,a3,a5,a4⟩:=cells qC (vs:=vs) (by grind) fe (fun j v x hj dk=>by
    have dr:j<ls.length:=by grind
    rw[jv dr] at dk;obtain ⟨v',v1,t,_,v2⟩:=hg j (by omega);rw[Ka j dr,v1] at hj;cases hj;exact .tA (v2 x dk))
   refine ⟨h1,jL,d1,u1,a1,a2,a3,fun I' μ hp0 i1 i2 ρ m eu cD rest=> ?_⟩;obtain ⟨k1,k2,k3⟩:=a4 I' μ hp0 i1 i2 ρ m eu cD rest;have hn:(iZ ls (d1++rest)).length=ls.length:=k1.trans a5.symm;refine .pref (k2.trans k1.symm) (fun j hj=>i1 _ _ (q2 j (by omega))) (fun j t y ht hy=> ?_);grind
 | fn f a b=>
  cases x<;>simp only[Bm] at hr<;>first|(cases hr;done)|skip
  rename_i f' xs ys;obtain ⟨hc,qC⟩:=aD hr;clear hr;rw[aM] at hc;subst hc;cases hv with
  | @fn _ fs cs _ _ q1 q2 q3 q4=>
   obtain ⟨h1,jL,d1,u1,a1,a2,a3,a5,a4⟩:=Gz S qC (vs:=fs.toList) (by omega) (fun j v x hj hx=>q2 j v x (by grind) hx);obtain ⟨h2,xB,d2,u2,b1,b2,b3,b5,b4⟩:=Gz S a1 (vs:=cs.toList) (by omega) (fun j v x hj hx=>q4 j v x (by grind) hx);refine ⟨h2,xB,d1++d2,u1++u2,b1,a2.trans b2,by simp only[iA,VS.size];omega,fun I' μ hp0 i1 i2 ρ m eu cD rest=> ?_⟩;obtain ⟨k1,k2⟩:=(a4.later b2) I' μ hp0 i1 i2 ρ m eu cD (d2++rest);obtain ⟨k3,k4⟩:=b4.more I' μ hp0 i1 i2 ρ m eu cD rest;simp only[nZ];rw[show (d1++d2++rest).drop (ni a)=d2++rest by grind,kJ];exact .fn (by omega) (fun j v y hj hy=>k2 j v y (by grind) hy) (by omega) (fun j v y hj hy=>k4 j v y (by grind) hy)
theorem RJ (S:aC P w I β hp B M w0) {α:Type}: ∀{ls:List VS} {xs:List V} {h:Hand} {k:Hand→Rd α} {r:α} {rd:List Nat} {vs:List Value},(Eo P ls xs h k).run C hp=some (r,rd)→vs.length=xs.length→
  (∀(j:Nat) v x,vs[j]? =some v→xs[j]? =some x→aj P w I β hp v x)→
  ∃h' gU d u,(k h').run C hp=some (r,gU)∧Ext P w I β hp h h' d u∧d.length=wP ls∧ls.length=xs.length∧
   pN P w I β hp h' u fun I' μ hp0=> ∀rest,(jB ls (d++rest)).length=xs.length∧∀(j:Nat) v y,vs[j]? =some v→(jB ls (d++rest))[j]? =some y→aj P w I' μ hp0 v y
 | [],[],h,k,r,rd,vs,hr,hl,hv=>⟨h,rd,[],[],hr,Ext.refl h,rfl,rfl,fun I' μ hp0 _ _ _ _ _ _ rest=>⟨rfl,fun j v y _ hy=>by grind⟩⟩
 | [],_::_,h,k,r,rd,vs,hr,hl,hv=>by cases hr
 | _::_,[],h,k,r,rd,vs,hr,hl,hv=>by cases hr
 | l::ls,x::xs,h,k,r,rd,vs,hr,hl,hv=>by
  cases vs with
  | nil=>simp at hl
  | cons v vs=>
   simp only[Eo] at hr;obtain ⟨h1,jL,d1,u1,a1,a2,a3,a4⟩:=alZ S hr (hv 0 v x rfl rfl);obtain ⟨h2,xB,d2,u2,b1,b2,b3,b5,b4⟩:=RJ S a1 (by grind) (vs:=vs) (fun j v x hj hx=>hv (j+1) v x (by grind) (by grind));refine ⟨h2,xB,d1++d2,u1++u2,b1,a2.trans b2,by simp only[iA,wP];omega,by simp[b5],fun I' μ hp0 i1 i2 ρ m eu cD rest=> ?_⟩;have k1:=(a4.later b2) I' μ hp0 i1 i2 ρ m eu cD (d2++rest);obtain ⟨k2,k3⟩:=b4.more I' μ hp0 i1 i2 ρ m eu cD rest;simp only[jB];grind
def LW:List BS→Nat
 | []=>0
 | b::l=>b.size+LW l
theorem aah: ∀{b:Nat} {e e':TypeId} {es:List V} {v:V},(∀q b' e' m,At P w b e es q b' e' m→iP P w I b' e' m)→∀(path:Path),nY P e path=some e'→fl P e es path=some v→0<v.toList.length→
  ∃b1,At P w b e es path b1 e' v.toList
 | b,e,e',es,v,c6,[],ht,hv,hl=>by
  simp only[nY,fi] at ht;simp only[fl,fi] at hv;subst ht;subst hv;exact ⟨b,.here⟩
 | b,e,e',es,v,c6,(i,c)::q,ht,hv,hl=>by
  simp only[nY] at ht;simp only[fl] at hv;obtain ⟨x,hx,hv⟩:=bind_some hv;cases htc:(nY.Ef P e)[c]? with
  | none=>grind
  | some t=>
   rw[htc] at ht;simp only at ht;have RK:(aX P e)[c]? =some t:=htc;cases hu:P.underlying t with
   | none=>grind
   | some d=>
    rw[hu] at ht;cases d<;>simp only at ht<;>first|(cases ht;done)|skip
    rename_i e1;rw[rn RK] at hv;have hR:=c6 _ _ _ _ .here;obtain ⟨Ca,_,c1,_,c2,c3⟩:=hR.cells;have yA:c<P.cellsOf e:=by rw[←fG hR.ok];grind
    obtain ⟨u,d1,d2⟩:=c3 i c x t hx RK yA;rw[d2.xb] at hv;generalize hy:ch P e x c=y at d2 hv;cases d2 with
    | gy a p=>unfold dY at a;grind
    | @emp e2 a qB=>
     rw[hu] at qB;cases qB;simp only at hv;cases q with
     | nil=>simp only[fl,fi] at hv;subst hv;simp[V.toList] at hl
     | cons a q=>simp[fl] at hv
    | @row e2 bW b2 cap qB mL bd bR sq=>
     rw[hu] at qB;cases qB;simp only at hv;have sn: ∀{q b' e' aL},At P w b2 e1 bW q b' e' aL→At P w b e es ((i,c)::q) b' e' aL:=fun h=> .step c1 hx RK hu hy mL d1 h;obtain ⟨b1,rF⟩:=aah (fun q b' e' m h=>c6 _ _ _ _ (sn h)) q ht hv hl;grind
def vK (P:Program) (I:Nat→Nat→Prop) (blk:ah) (b:Nat):Prop:= ∀j,I b j→∃e es,blk= .arr e es true∧j<es.length*P.cellsOf e
theorem vK.no {blk:ah} {b:Nat} (h:vK P I blk b) (hn: ∀e es,blk≠ .arr e es true) (j:Nat): ¬I b j:=fun hi=>by
 obtain ⟨e,es,h1,_⟩:=h j hi;exact hn e es h1
theorem aai (S:aC P w I β hp B M w0) {α:Type}: ∀{bs:List BS} {j:Nat} {h:Hand} {k:Hand→Rd α} {r:α} {rd:List Nat},(uT P bs j h k).run C hp=some (r,rd)→
  ∃h' gU d u,(k h').run C hp=some (r,gU)∧Ext P w I β hp h h' d u∧d.length=LW bs∧
   ∀rest,(im bs (d++rest)).length=bs.length∧∃o:Nat→Option Nat,
    (∀(i:Nat) blk,(im bs (d++rest))[i]? =some blk→∃p,gv h'.pl (j+i)=some p∧gm P w β hp p (o i) blk)∧
    pN P w I β hp h' u fun I' μ hp0=> ∀(i:Nat) blk,(im bs (d++rest))[i]? =some blk→(∀b,bh P w (o i) blk b→vK P I' blk b)→fc P w I' μ hp0 (o i) blk
 | [],j,h,k,r,rd,hr=>⟨h,rd,[],[],hr,Ext.refl h,rfl,fun rest=>⟨rfl,fun _=>none,fun i blk hb=>by simp[im] at hb,fun I' μ hp0 _ _ _ _ _ _ i blk hb=>by simp[im] at hb⟩⟩
 | b::bs,j,h,k,r,rd,hr=>by
  simp only[uT] at hr;have fin: ∀{h1:Hand} {jL:List Nat} {d1:List V} {u1:List (Nat×ah)} {o1:Option Nat} {p:Place},(uT P bs (j+1) h1 k).run C hp=some (r,jL)→Ext P w I β hp h h1 d1 u1→d1.length=b.size→gv h.pl j=some p→
    (∀rest,gm P w β hp p o1 (iO b (d1++rest)))→(∀rest,pN P w I β hp h1 u1 fun I' μ hp0=>(∀bb,bh P w o1 (iO b (d1++rest)) bb→vK P I' (iO b (d1++rest)) bb)→fc P w I' μ hp0 o1 (iO b (d1++rest)))→
    ∃h' gU d u,(k h').run C hp=some (r,gU)∧Ext P w I β hp h h' d u∧d.length=LW (b::bs)∧
     ∀rest,(im (b::bs) (d++rest)).length=(b::bs).length∧∃o:Nat→Option Nat,
      (∀(i:Nat) blk,(im (b::bs) (d++rest))[i]? =some blk→∃p,gv h'.pl (j+i)=some p∧gm P w β hp p (o i) blk)∧
      pN P w I β hp h' u fun I' μ hp0=> ∀(i:Nat) blk,(im (b::bs) (d++rest))[i]? =some blk→(∀b,bh P w (o i) blk b→vK P I' blk b)→fc P w I' μ hp0 (o i) blk:=by
   intro h1 jL d1 u1 o1 p hk he hd bP hl ht;obtain ⟨h2,xB,d2,u2,b1,b2,b3,b4⟩:=aai S hk;refine ⟨h2,xB,d1++d2,u1++u2,b1,he.trans b2,by simp only[iA,LW];omega,fun rest=> ?_⟩;obtain ⟨c1,o,c2,c3⟩:=b4 rest;simp only[im];rw[show (d1++d2++rest).drop b.size=d2++rest by grind,kJ];refine ⟨by simp[c1],fun i=>match i with|0=>o1|i+1=>o i,fun i blk hb=> ?_,fun I' μ hp0 i1 i2 ρ m eu cD i blk hb dp=> ?_⟩
   ·cases i with
    | zero=>
     simp at hb;subst hb;exact ⟨p,b2.look (he.look bP),hl _⟩
    | succ i=>
     grind
   ·cases i with
    | zero=>
     simp at hb;subst hb;exact ((ht _).later b2) I' μ hp0 i1 i2 ρ m eu cD dp
    | succ i=>exact c3.more I' μ hp0 i1 i2 ρ m eu cD i blk (by grind) dp
  cases bP:gv h.pl j with
  | none=>rw[bP] at hr;cases hr
  | some p=>
   rw[bP] at hr;cases p with
   | blk id=>
    obtain ⟨l1,hr⟩:=run_get hr;cases ae:hp id with
    | none=>rw[ae] at hr;cases hr
    | some blk=>
     rw[ae] at hr;cases blk with
     | dead=>cases hr
     | out _ _ _ _=>cases hr
     | var T0 cs=>
      cases b<;>simp only at hr<;>first|(cases hr;done)|skip
      rename_i T1 ss;obtain ⟨hT,vJ⟩:=aD hr;clear hr;rw[aM] at hT;subst hT;have cT:=S.h.rel id _ ae;generalize ho:β id=o at cT;cases cT with
      | @var _ bb Ca T hb hh hs hI hx iQ=>
       obtain ⟨h1,jL,d1,u1,a1,a2,a3,a5,a4⟩:=RJ S vJ (vs:=Ca.toList) (by omega) (fun j v x hj dk=>hx j v x (by grind) dk);refine fin (o1:=β id) a1 a2 a3 bP (fun rest=> .var ae) fun rest I' μ hp0 i1 i2 ρ m eu cD dp=> ?_;obtain ⟨k1,k2⟩:=a4 I' μ hp0 i1 i2 ρ m eu cD rest;exact .var (ho.trans hb) hh (by omega) ((dp _ (.root (by simp[iO]) (ho.trans hb))).no (by simp[iO])) (fun i v y hi hy=>k2 i v y (by grind) hy) iQ
     | arr e' es fz=>
      cases b with
      | arr e pj=>
       obtain ⟨hc,qC⟩:=aD hr;clear hr;simp only[aK,aM] at hc;obtain ⟨rfl,gg⟩:=hc;obtain rfl:pj=fz:=by cases fz<;>cases pj<;>first|rfl|cases gg
       refine fin (d1:=[.list e es]) (o1:=β id) qC (Ext.leaf h _) rfl bP (fun rest=>gm.arr ae) fun rest I' μ hp0 i1 i2 ρ m eu cD dp=> ?_;replace dp: ∀bb,bh P w (β id) (.arr e es pj) bb→vK P I' (.arr e es pj) bb:=dp;change fc P w I' μ hp0 (β id) (.arr e es pj);have cT:=S.h.rel id _ ae;generalize ho:β id=o at cT dp⊢;cases cT with
       | ez hb=>exact .ez hb
       | arr a0 a1 a2 a3 a4 a5 a6 a7=>
        have hn:=dp _ (.root (by simp) a2);refine .arr a0 a1 a2 a3 a4 (fun _ j hi=> ?_) (fun hz=>hn.no (by simp[hz])) fun i j x t' y1 y2 y3=> ?_
        ·obtain ⟨e',aL,h1,h2⟩:=hn j hi;cases h1;exact h2
        ·obtain ⟨v,z1,z2⟩:=a7 i j x t' y1 y2 y3;exact ⟨v,z1,z2.mono i1 fun _ _ _=>rfl⟩
      | _=>cases hr
     | nest e' es vers=>
      cases b with
      | nest e=>
       obtain ⟨hc,qC⟩:=aD hr;clear hr;rw[aM] at hc;subst hc;refine fin (d1:=[.list e es]) (o1:=β id) qC (Ext.leaf h _) rfl bP (fun rest=>gm.nest ae) fun rest I' μ hp0 i1 i2 ρ m eu cD dp=> ?_;have aaj: ∀bb,bh P w (β id) (.nest e es [0,0,0]) bb→∀j,¬I' bb j:=fun bb h=>vK.no (blk:= .nest e es [0,0,0]) (dp bb h) (by simp);change fc P w I' μ hp0 (β id) (.nest e es [0,0,0]);have cT:=S.h.rel id _ ae;generalize ho:β id=o at cT aaj⊢;cases cT with
       | jc hb=>exact .jc hb
       | nest hb c6 mc=>
        refine .nest hb (fun q b' e1 m1 hq=> ?_) mc;obtain ⟨ok,⟨Ca,Tc,c1,c0,c2,c3⟩,nI⟩:=c6 q b' e1 m1 hq;refine ⟨ok,⟨Ca,Tc,c1,c0,c2,fun i j x t' y1 y2 y3=> ?_⟩,aaj _ (.row hb hq)⟩;obtain ⟨v,z1,z2⟩:=c3 i j x t' y1 y2 y3;exact ⟨v,z1,z2.mono i1 (fun _ _ _=>rfl) fun _ _ _ _ _=>rfl⟩
      | _=>cases hr
     | map t' es=>
      cases b with
      | map t=>
       obtain ⟨hc,qC⟩:=aD hr;clear hr;rw[aM] at hc;subst hc;refine fin (d1:=[.list t es]) (o1:=β id) qC (Ext.leaf h _) rfl bP (fun rest=>gm.map ae) fun rest I' μ hp0 i1 i2 ρ m eu cD dp=> ?_;change fc P w I' μ hp0 (β id) (.map t es);have cT:=S.h.rel id _ ae;generalize ho:β id=o at cT dp⊢;cases cT with
       | map a1 a2 a3 a4 a5 a6 a7=>exact .map a1 a2 a3 a4 ((dp _ (.root (by simp[iO]) a2)).no (by simp[iO])) a6 a7
      | _=>cases hr
   | row id ver path=>
    obtain ⟨e0,es,vers,l1,k1,k2,k3,k4,k5⟩:=rm hr;obtain ⟨e',vv,m1,m2,m3⟩:=Bu k5;cases b with
    | arr e fz=>
     cases fz with
     | true=>cases m3
     | false=>
      obtain ⟨hc,m4⟩:=aD m3;clear m3;simp only[aK,aM,mZ] at hc;obtain ⟨rfl,GA,mL⟩:=hc;have cT:=S.h.rel id _ k1;cases hb:β id with
      | none=>
       rw[hb] at cT;cases cT with
       | nest au _ _=>cases au
       | jc _=>
        cases path with
        | nil=>grind
        | cons p q=>obtain ⟨i,c⟩:=p;simp[fl] at m2
      | some b0=>
       rw[hb] at cT;cases cT with
       | jc au=>cases au
       | nest au c6 mc=>
        cases au;obtain ⟨b1,fT⟩:=aah c6 path m1 m2 mL;refine fin (d1:=[.list e vv.toList]) (o1:=some b1) m4 (Ext.leaf h _) rfl bP (fun rest=>gm.row k1 hb fT GA k2 k3 k4 mL) fun rest I' μ hp0 i1 i2 ρ m eu cD dp=> ?_;change fc P w I' μ hp0 (some b1) (.arr e vv.toList false);obtain ⟨ok,⟨Ca,Tc,c1,c0,c2,c3⟩,nI⟩:=c6 _ _ _ _ fT;refine .arr c0 ok rfl c1 c2 (fun h=>by cases h) (fun _=>(dp _ (.root (by simp[iO]) rfl)).no (by simp[iO])) fun i j x t' y1 y2 y3=> ?_;obtain ⟨v,z1,z2⟩:=c3 i j x t' y1 y2 y3;refine ⟨v,z1,?_⟩;generalize ch P e x j=y at z2⊢;cases z2 with
        | gy _ p=>exact p.mono i1 fun _ _ _=>rfl
        | emp hu=>exact absurd hu (aak GA y2 _)
        | row hu _ _ _ _=>exact absurd hu (aak GA y2 _)
    | _=>cases m3
where
 aak {e t:TypeId} {j:Nat} (h:Ek P e=true) (ht:(aX P e)[j]? =some t) (e':TypeId):P.underlying t≠some (.slice e'):=by
  intro hu;have h2:=ig.1 h t (mB ht);grind
end
section
variable {P:Program} {A:dw} {w w':World} {I I' I2:Nat→Nat→Prop} {μ β β' cM:Nat→Option Nat} {hp hp' hp0 bP:Nat→Option ah} {C:af} {B:Nat} {M:Nat→Prop} {w0:Start}
structure oN (w:World) (I:Nat→Nat→Prop) (β:Nat→Option Nat) (hp:Nat→Option ah) (w':World) (I':Nat→Nat→Prop) (β':Nat→Option Nat) (hp':Nat→Option ah):Prop where
 ej: ∀b j,I b j→I' b j
 cQ: ∀b j,I b j→w'.cell? ⟨b,j,none⟩=w.cell? ⟨b,j,none⟩
 blk: ∀id blk,hp id=some blk→∃blk',hp' id=some blk'∧blk.le blk'∧(blk'≠ .dead→β' id=β id)
 size: ∀id blk blk' b,hp id=some blk→hp' id=some blk'→blk'≠ .dead→β id=some b→bsize w' b=bsize w b
theorem Le.Cx (h:Le P w I β hp w' I' β' hp'):oN w I β hp w' I' β' hp':=⟨h.ej,h.cQ,h.blk,h.size⟩
theorem oN.trans {EB:World} {EC:Nat→Nat→Prop} {ED:Nat→Option Nat} {EE:Nat→Option ah} (h1:oN w I β hp w' I' β' hp') (h2:oN w' I' β' hp' EB EC ED EE):oN w I β hp EB EC ED EE:=by
 refine ⟨fun b j h=>h2.ej b j (h1.ej b j h),fun b j h=>(h2.cQ b j (h1.ej b j h)).trans (h1.cQ b j h),fun id blk h=> ?_,fun id blk yu b h JX hd hb=> ?_⟩
 ·obtain ⟨blk',e',l',b'⟩:=h1.blk id blk h;obtain ⟨yu,dZ,EF,b''⟩:=h2.blk id blk' e';refine ⟨yu,dZ,ah.le_trans l' EF,fun hd=> ?_⟩;have fS:blk'≠ .dead:=fun e=>hd (ah.tB (e▸EF));grind
 ·obtain ⟨blk',e',l',b'⟩:=h1.blk id blk h;obtain ⟨kR,e3,l3,b3⟩:=h2.blk id blk' e';obtain rfl:kR=yu:=by grind
  have fS:blk'≠ .dead:=fun e=>hd (ah.tB (e▸l3));rw[h2.size id blk' kR b e' e3 hd ((b' fS).trans hb),h1.size id blk blk' b h e' fS hb]
def sQ (P:Program) (w:World) (μ:Nat→Option Nat) (hp0:Nat→Option ah) (b:Nat):Prop:= ∃j blk,hp0 j=some blk∧bh P w (μ j) blk b
structure al0 (P:Program) (A:dw) (key:Nat) (w:World) (I:Nat→Nat→Prop) (μ:Nat→Option Nat) (ds es:List V) (w':World) (v:Value) (I2:Nat→Nat→Prop) (cM:Nat→Option Nat):Prop where
 Cy:aC P w' I2 cM (bQ (A.so key es) (A.lv key es)).hp w.heap.size (sQ P w μ (bQ (A.sin key) ds).hp) ⟨w,I⟩
 le:oN w I μ (bQ (A.sin key) ds).hp w' I2 cM (bQ (A.so key es) (A.lv key es)).hp
 res:aj P w' I2 cM (bQ (A.so key es) (A.lv key es)).hp v (tw (ja (A.so key es).cx (A.lv key es)))
def oO (P:Program) (A:dw) (C:af):Prop:=
 ∀key ds es,C key ds=some es→∃fn c,P.funcs[A.jT key]? =some fn∧fn.body=some c∧
  ∀(w:World) (I:Nat→Nat→Prop) (μ:Nat→Option Nat) (vals:List Value),
   yq P w I μ (bQ (A.sin key) ds).hp w.heap.size (sQ P w μ (bQ (A.sin key) ds).hp)→jW P A.aE w I→
   vals.length=(A.sin key).cx.length→(∀(j:Nat) v x,vals[j]? =some v→(jB ((A.sin key).cx.map (·.2)) ds)[j]? =some x→aj P w I μ (bQ (A.sin key) ds).hp v x)→
   Calls P (A.jT key) vals.toArray w fun e w'=> ∃v I2 cM,e= .returned v∧al0 P A key w I μ ds es w' v I2 cM
theorem gm.zo {p:Place} {o:Option Nat} {blk:ah} {b:Nat} (h:gm P w β hp p o blk) (ho:bh P w o blk b):
  ∃ub,hp p.id=some ub∧bh P w (β p.id) ub b∧∀e es,ub= .arr e es true→blk= .arr e es true∧o=β p.id:=by
 cases h with
 | var h=>exact ⟨_,h,.root (by simp) (ho.flat (by simp)),by simp⟩
 | arr h=>exact ⟨_,h,.root (by simp) (ho.flat (by simp)),fun _ _ h=>⟨h,rfl⟩⟩
 | map h=>exact ⟨_,h,.root (by simp) (ho.flat (by simp)),by simp⟩
 | nest h=>
  refine ⟨_,h,?_,by simp⟩;cases ho with
  | root _ hb=>exact .root (by simp) hb
  | row hb ha=>exact .row hb ha
 | row h hb ha _ _ _ _ _=>
  have:=ho.flat (by simp)
  cases this;exact ⟨_,h,.row hb ha,by simp⟩
theorem aC.al1 (S:aC P w I β hp B M w0) {id b:Nat} {blk:ah} (ae:hp id=some blk) (ho:bh P w (β id) blk b) (hf: ∀e es,blk≠ .arr e es true): ∀j,¬I b j:=by
 have hr:=S.h.rel id blk ae;generalize β id=o at hr ho;cases hr with
 | var hb _ _ hI _ _=>have:=ho.flat (by simp);grind
 | ez hb=>have:=ho.flat (by simp);grind
 | @arr e _ es fz _ _ _ _ hb _ _ _ fO _=>
  have:=ho.flat (by simp)
  simp_all
 | dead=>exact absurd rfl ho.alive
 | map _ hb _ _ hI _ _=>have:=ho.flat (by simp);grind
 | out hb _ _ hh _ _ hI hc hr _=>
  cases ho with
  | root _ au=>grind
  | qi au yw hj hx h0 hv=>
   rw[hb] at au;cases au;rw[hh] at yw;cases yw;obtain ⟨_,_,m1,_⟩:=hc _ _ hj hx;cases m1;exact (hr _ _ _ _ hj hx h0 hv).2.nI
 | jc hb=>cases ho<;>simp_all
 | nest hb hr _=>
  cases ho with
  | root _ au=>rw[hb] at au;cases au;exact (hr _ _ _ _ .here).nI
  | row au ha=>rw[hb] at au;cases au;exact (hr _ _ _ _ ha).nI
theorem LX {a b:List Nat} (h:Be a b=false) {x:Nat} (ha:x∈a):x∉b:=by
 intro hb;unfold Be at h;rw[List.any_eq_false] at h;exact h x ha (yG hb)
theorem al2 (S:aC P w I β hp B M w0) {pl:List Place} {upd:List (Nat×ah)} {o:Nat→Option Nat} (oo:(pl.map Place.id).Nodup) (LY:Be (upd.map (·.1)) (pl.map Place.id)=false)
  (hl: ∀j blk,hp0 j=some blk→∃p,gv pl j=some p∧gm P w β hp p (o j) blk)
  (cT:(∀j blk,hp0 j=some blk→∀b,bh P w (o j) blk b→vK P (jX P w I β hp upd) blk b)→∀j blk,hp0 j=some blk→fc P w (jX P w I β hp upd) o hp0 (o j) blk) (aR: ∀b j,jX P w I β hp upd b j→b<w.heap.size):
  yq P w (jX P w I β hp upd) o hp0 w.heap.size (sQ P w o hp0):=by
 have dp: ∀j blk,hp0 j=some blk→∀b,bh P w (o j) blk b→vK P (jX P w I β hp upd) blk b:=by
  intro j blk hj b ho jj hI;obtain ⟨p,bP,gh⟩:=hl j blk hj;obtain ⟨ub,k1,k2,k3⟩:=gh.zo ho;rcases hI with hI|⟨q,hq,cI,q1,q2⟩
  ·by_cases hz: ∃e es,ub= .arr e es true
   ·obtain ⟨e,es,rfl⟩:=hz;obtain ⟨rfl,h4⟩:=k3 e es rfl;refine ⟨e,es,rfl,?_⟩;have hr:=S.h.rel _ _ k1;have hb:=k2.flat (by simp)
    generalize β p.id=o' at hr hb;cases hr with
    | ez h=>rw[hb] at h;cases h
    | arr _ _ a2 _ _ a5 _ _=>rw[hb] at a2;cases a2;exact a5 rfl jj hI
   ·exact absurd hI (S.al1 k1 k2 (fun e es h=>hz ⟨e,es,h⟩) jj)
  ·exfalso;have:=S.h.inj _ _ _ _ b q1 k1 q2.own k2;refine LX LY (iB.2 ⟨q,hq,rfl⟩) ?_;rw[this];rw[pM] at bP;grind
 refine ⟨cT dp,fun j1 j2 b1 b2 b h1 h2 o1 o2=> ?_,fun j blk b h1 o1=> .inl ⟨j,blk,h1,o1⟩,aR⟩;obtain ⟨p1,q1,q2⟩:=hl j1 b1 h1;obtain ⟨p2,r1,r2⟩:=hl j2 b2 h2;obtain ⟨c1,x1,x2,_⟩:=q2.zo o1;obtain ⟨c2,y1,y2,_⟩:=r2.zo o2;have ae:=S.h.inj _ _ _ _ b x1 y1 x2 y2;rw[pM] at q1 r1;have m1:(pl.map Place.id)[j1]? =some p1.id:=by grind
 have m2:(pl.map Place.id)[j2]? =some p2.id:=by grind
 rw[←ae] at m2;obtain ⟨z1,z2⟩:=cC.1 m1;obtain ⟨z3,z4⟩:=cC.1 m2;exact (List.getElem_inj oo).1 (z2.trans z4.symm)
def aal:V→Prop
 | .list .. =>False
 | .nl .. =>False
 | .pref .. =>False
 | .agg _=>False
 | .bf _=>False
 | .fn .. =>False
 | _=>True
theorem aj.free {v:Value} {x:V} (h:aj P w I β hp v x) (hx:aal x):aj P w I' β hp v x:=by
 cases h with
 | undef=>exact .undef
 | int=>exact .int
 | bool=>exact .bool
 | str h=>exact .str h
 | list h=>exact hx.elim
 | nilS=>exact .nilS
 | nl=>exact hx.elim
 | agg=>exact hx.elim
 | bf=>exact hx.elim
 | eG=>exact .eG
 | fn=>exact hx.elim
 | pref=>exact hx.elim
 | eb h=>exact .eb h
 | jF h=>exact .jF h
 | mH h=>exact .mH h
 | dX h hb=>exact .dX h hb
 | whole h hb a b c=>exact .whole h hb a b c
 | dP h hb a b c=>exact .dP h hb a b c
 | eh h hb=>exact .eh h hb
 | fF h hb a b c=>exact .fF h hb a b c
 | jb h hb=>exact .jb h hb
 | sub h hb a b c=>exact .sub h hb a b c
 | ptr h hd hb=>exact .ptr h hd hb
 | mI h vB=>exact .mI h vB
 | mJ h vB=>exact .mJ h vB
 | row h hb a b c d=>exact .row h hb a b c d
 | dI h hb a b c d e=>exact .dI h hb a b c d e
 | fk=>exact .fk
 | lC h=>exact .lC h
 | cY h hb=>exact .cY h hb
theorem GB {l:LS} {ds:List V} (hs:l.safe=true):aal (lx l ds):=by
 cases l<;>simp only[LS.safe] at hs<;>first|(cases hs;done)|trivial
theorem GC: ∀{ls:List LS} {ds:List V} {j:Nat} {y:V},(iZ ls ds)[j]? =some y→∃l kG,l∈ls∧y=lx l kG
 | [],ds,j,y,h=>by simp[iZ] at h
 | l::ls,ds,j,y,h=>by
  simp only[iZ] at h;cases j with
  | zero=>grind
  | succ j=>
   obtain ⟨l',kG,h1,h2⟩:=GC (j:=j) (by simpa using h);grind
theorem aam: ∀{ls:List VS} {ds:List V} {j:Nat} {y:V},(jB ls ds)[j]? =some y→∃l kG,l∈ls∧y=nZ l kG
 | [],ds,j,y,h=>by simp[jB] at h
 | l::ls,ds,j,y,h=>by
  simp only[jB] at h;cases j with
  | zero=>grind
  | succ j=>
   obtain ⟨l',kG,h1,h2⟩:=aam (j:=j) (by simpa using h);grind
theorem aan {s:VS} {ds:List V} {v:Value} (h:aj P w I β hp v (nZ s ds)) (hs:s.safe=true):aj P w I' β hp v (nZ s ds):=by
 cases s with
 | one l=>exact h.free (GB hs)
 | agg ls=>
  simp only[nZ] at h⊢;obtain ⟨cs,rfl,e1,e2⟩:=h.np;refine .agg e1 fun j v x hj hx=> ?_;obtain ⟨l,kG,k1,rfl⟩:=GC hx;exact (e2 j v _ hj hx).free (GB (ig.1 hs l k1))
 | bf ls=>
  simp only[nZ] at h⊢;obtain ⟨cs,rfl,e1,e2⟩:=h.yB;refine .bf e1 fun j v x hj hx=> ?_;obtain ⟨l,kG,k1,rfl⟩:=GC hx;exact (e2 j v _ hj hx).free (GB (ig.1 hs l k1))
 | fn f a b=>
  simp only[VS.safe,aK] at hs;simp only[nZ] at h⊢;cases h with
  | fn a1 a2 b1 b2=>
   refine .fn a1 (fun j v x hj hx=> ?_) b1 (fun j v x hj hx=> ?_)
   ·obtain ⟨l,kG,k1,rfl⟩:=GC hx;exact (a2 j v _ hj hx).free (GB (ig.1 hs.1 l k1))
   ·obtain ⟨l,kG,k1,rfl⟩:=GC hx;exact (b2 j v _ hj hx).free (GB (ig.1 hs.2 l k1))
 | pref ts ls=>cases hs
theorem Pure.scalar {t:TypeId} {v:Value} {x:V} (h:Pure P w I t v x) (hn: ∀e,P.underlying t≠some (.slice e)):Pure P w I' t v x:=by
 cases h with
 | int h=>exact .int h
 | bool h=>exact .bool h
 | str h hl=>exact .str h hl
 | nil h=>grind
 | emp h=>grind
 | list g h=>grind
theorem al3 {e t:TypeId} {j:Nat} (h:Ek P e=true) (ht:(aX P e)[j]? =some t) (e':TypeId):P.underlying t≠some (.slice e'):=by
 intro hu;have h2:=ig.1 h t (mB ht);grind
theorem al4 {o:Option Nat} {b:BS} {ds:List V} (h:fc P w I2 β hp o (iO b ds)) (hs:b.safe P=true) (hi: ∀b j,I b j→I2 b j):fc P w I β hp o (iO b ds):=by
 cases b with
 | dead=>exact .dead
 | var T0 ls=>
  simp only[iO] at h⊢;cases h with
  | var hb hh bd hI hx iQ=>
   refine .var hb hh bd (fun j h=>hI j (hi _ j h)) (fun j v x hj dk=> ?_) iQ;obtain ⟨l,kG,k1,rfl⟩:=aam dk;exact aan (hx j v _ hj dk) (ig.1 hs l k1)
 | arr e fz=>
  simp only[BS.safe,aK,nc] at hs;obtain ⟨rfl,GA⟩:=hs;simp only[iO] at h⊢;generalize (V.nth ds 0).toList=es at h⊢;cases h with
  | ez hb=>exact .ez hb
  | arr a0 a1 a2 a3 a4 a5 a6 a7=>
   refine .arr a0 a1 a2 a3 a4 (fun h=>by cases h) (fun _ j h=>a6 rfl j (hi _ j h)) fun i j x t' y1 y2 y3=> ?_;obtain ⟨v,z1,z2⟩:=a7 i j x t' y1 y2 y3;exact ⟨v,z1,z2.scalar (al3 GA y2)⟩
 | nest e=>
  simp only[iO] at h⊢;generalize (V.nth ds 0).toList=es at h⊢;cases h with
  | jc hb=>exact .jc hb
  | nest hb c6 mc=>
   refine .nest hb (fun q b' e1 m1 hq=> ?_) mc;obtain ⟨ok,⟨Ca,Tc,c1,c0,c2,c3⟩,nI⟩:=c6 q b' e1 m1 hq;refine ⟨ok,⟨Ca,Tc,c1,c0,c2,fun i j x t' y1 y2 y3=> ?_⟩,fun j h=>nI j (hi _ j h)⟩;obtain ⟨v,z1,z2⟩:=c3 i j x t' y1 y2 y3;refine ⟨v,z1,?_⟩;generalize ch P e1 x j=y at z2⊢;cases z2 with
   | gy a p=>
    refine .gy a (p.scalar fun e hu=> ?_);unfold dY at a;grind
   | emp a=>exact .emp a
   | row a b c d e=>exact .row a b c d e
 | map t=>
  simp only[iO] at h⊢;cases h with
  | map a1 a2 a3 a4 a5 a6 a7=>exact .map a1 a2 a3 a4 (fun j h=>a5 j (hi _ j h)) a6 a7
theorem LZ: ∀{l:List BS} {ds:List V} {j:Nat} {y:ah},(im l ds)[j]? =some y→∃b kG,l[j]? =some b∧y=iO b kG
 | [],ds,j,y,h=>by simp[im] at h
 | b::l,ds,j,y,h=>by
  simp only[im] at h;cases j with
  | zero=>grind
  | succ j=>
   obtain ⟨b',kG,h1,h2⟩:=LZ (j:=j) (by simpa using h);grind
theorem aao: ∀{l:List (Nat×VS)} {ds:List V} {q:Nat×V},q∈ja l ds→∃s kG,(q.1,s)∈l∧q.2=nZ s kG
 | [],ds,q,h=>by simp[ja] at h
 | (k,s)::l,ds,q,h=>by
  simp only[ja,fj] at h;rcases h with h|h
  ·grind
  ·obtain ⟨s',kG,h1,h2⟩:=aao h;grind
theorem al5 {S:Shape} {es:List V} (hs:S.safe P=true) (hi: ∀b j,I b j→I2 b j) {N:Nat→Prop} {st:Start} (h:aC P w' I2 cM (bQ S es).hp B N st) (h0: ∀b j,I b j→st.I b j):
  aC P w' I cM (bQ S es).hp B N st∧∀v,aj P w' I2 cM (bQ S es).hp v (tw (ja S.cx es))→aj P w' I cM (bQ S es).hp v (tw (ja S.cx es)):=by
 unfold Shape.safe at hs;simp only[aK] at hs;obtain ⟨kU,pL⟩:=hs;have one: ∀q∈ja S.cx es,∀v,aj P w' I2 cM (bQ S es).hp v q.2→aj P w' I cM (bQ S es).hp v q.2:=by
  intro q hq v hv;obtain ⟨s,kG,k1,k2⟩:=aao hq;rw[k2] at hv⊢;exact aan hv (ig.1 kU _ k1)
 refine ⟨⟨⟨fun j blk hj=> ?_,h.h.inj,h.h.own,fun b j hb=>h.h.jV b j (hi b j hb)⟩,h.cQ,h.size,fun b j hb=> .inl (h0 b j hb),h.io⟩,fun v hv=> ?_⟩
 ·have hr:=h.h.rel j blk hj;have fV:=hj;simp only[bQ,mk,ld] at fV;obtain ⟨b,kG,k1,rfl⟩:=LZ fV;exact al4 hr (ig.1 pL _ (mB k1)) hi
 ·generalize ja S.cx es=l at one hv⊢
  match l,one,hv with
  | [],_,hv=>
   simp only[tw,List.map_nil] at hv⊢;obtain ⟨cs,rfl,e1,e2⟩:=hv.yB;exact .bf e1 fun j v x _ hx=>by simp at hx
  | [q],one,hv=>exact one q (fL.2 rfl) v hv
  | q::q2::l,one,hv=>
   simp only[tw] at hv⊢;obtain ⟨cs,rfl,e1,e2⟩:=hv.yB;refine .bf e1 fun j v x hj hx=> ?_;grind
end
section
variable {P:Program} {A:dw} {w w':World} {I I' I2:Nat→Nat→Prop} {μ β β' cM:Nat→Option Nat} {hp hp' hp0 bP:Nat→Option ah} {C:af} {B:Nat} {M:Nat→Prop} {w0:Start}
inductive jM (σ:List Place):ah→ah→Prop
 | dead:jM σ .dead .dead
 | var {T:TypeId} {cs:List V}:jM σ (.var T cs) (.var T (cs.map (JN σ)))
 | arr {e:TypeId} {es:List V} {fz:Bool}:jM σ (.arr e es fz) (.arr e es fz)
 | nest {e:TypeId} {es:List V} {v1 v2:List Nat}:jM σ (.nest e es v1) (.nest e es v2)
 | map {t:TypeId} {es:List V}:jM σ (.map t es) (.map t es)
 | out {e:TypeId} {es:List V} {vs:List Nat} {i:Nat}:jM σ (.out e es vs i) .dead
theorem jM.of (σ:List Place) (b:ah):jM σ b (yl σ b):=by
 cases b with
 | dead=>exact .dead
 | var T cs=>exact .var
 | arr e es fz=>exact .arr
 | nest e es v=>exact .nest
 | map t es=>exact .map
 | out e es vs i=>exact .out
theorem aap {σ:List Place}: ∀{pl:List Place} {bs:List ah} {acc:List (Nat×ah)} {k:List (Nat×ah)→Rd R} {r:R} {rd:List Nat},(uU σ pl bs acc k).run C hp=some (r,rd)→
  pl.length≤bs.length∧∃bk gU,(k bk).run C hp=some (r,gU)∧(∀q∈bk,q∈acc∨∃(j:Nat) (b:ah),pl[j]? =some (.blk q.1)∧bs[j]? =some b∧jM σ b q.2∧((∃e es v2,q.2= .nest e es v2)→∃e es vers e' aL,hp q.1=some (.nest e es vers)∧q.2= .nest e' aL (vers.map (· +1))))∧
   (∀q∈acc,q∈bk)∧∀(j:Nat) p,pl[j]? =some p→∃id b,p= .blk id∧(id,b)∈bk
 | [],bs,acc,k,r,rd,h=>⟨ma _,acc,rd,by simpa only[uU] using h,fun q hq=> .inl hq,fun q hq=>hq,fun j p hp=>by simp at hp⟩
 | .row _ _ _::pl,bs,acc,k,r,rd,h=>by
  cases bs<;>(simp only[uU] at h;cases h)
 | .blk id::pl,[],acc,k,r,rd,h=>by simp only[uU] at h;cases h
 | .blk id::pl,b::bs,acc,k,r,rd,h=>by
  have fin: ∀{b2:ah} {jL:List Nat},(uU σ pl bs ((id,b2)::acc) k).run C hp=some (r,jL)→jM σ b b2→((∃e es v2,b2= .nest e es v2)→∃e es vers e' aL,hp id=some (.nest e es vers)∧b2= .nest e' aL (vers.map (· +1)))→
    (Place.blk id::pl).length≤(b::bs).length∧∃bk gU,(k bk).run C hp=some (r,gU)∧(∀q∈bk,q∈acc∨∃(j:Nat) (b':ah),(Place.blk id::pl)[j]? =some (.blk q.1)∧(b::bs)[j]? =some b'∧jM σ b' q.2∧((∃e es v2,q.2= .nest e es v2)→∃e es vers e' aL,hp q.1=some (.nest e es vers)∧q.2= .nest e' aL (vers.map (· +1))))∧
     (∀q∈acc,q∈bk)∧∀(j:Nat) p,(Place.blk id::pl)[j]? =some p→∃id b,p= .blk id∧(id,b)∈bk:=by
   intro b2 jL h1 hb hn;obtain ⟨a0,bk,gU,a1,a2,a3,a4⟩:=aap h1;refine ⟨by simp only[List.length_cons];omega,bk,gU,a1,fun q hq=> ?_,fun q hq=>a3 q (ju _ hq),fun j p hj=> ?_⟩
   ·rcases a2 q hq with h|⟨j,b',k1,k2,k3,k4⟩
    ·rcases fj.1 h with e|h
     ·subst e;exact .inr ⟨0,b,rfl,rfl,hb,hn⟩
     ·exact .inl h
    ·exact .inr ⟨j+1,b',by simpa using k1,by simpa using k2,k3,k4⟩
   ·cases j with
    | zero=>simp at hj;subst hj;exact ⟨id,b2,rfl,a3 _ (o5 ..)⟩
    | succ j=>exact a4 j p (by simpa using hj)
  cases b with
  | nest e es v=>
   simp only[uU] at h;obtain ⟨l,h⟩:=run_get h;cases ae:hp id with
   | none=>rw[ae] at h;cases h
   | some blk=>
    rw[ae] at h;cases blk with
    | nest e0 Lu vers=>exact fin h .nest fun _=>⟨e0,Lu,vers,e,es,ae,rfl⟩
    | _=>cases h
  | dead=>exact fin h (.of σ _) fun ⟨_,_,_,h⟩=>by cases h
  | var T cs=>exact fin h (.of σ _) fun ⟨_,_,_,h⟩=>by cases h
  | arr e es fz=>exact fin h (.of σ _) fun ⟨_,_,_,h⟩=>by cases h
  | map t es=>exact fin h (.of σ _) fun ⟨_,_,_,h⟩=>by cases h
  | out e es vs i=>exact fin h (.of σ _) fun ⟨_,_,_,h⟩=>by cases h
theorem aaq {σ:List Place}: ∀{bs:List ah} {n:Nat} {q:Nat×ah},q∈uV σ n bs→∃i b,bs[i]? =some b∧q=(n+i,yl σ b)
 | [],n,q,h=>by simp[uV] at h
 | b::bs,n,q,h=>by
  simp only[uV,fj] at h;rcases h with h|h
  ·exact ⟨0,b,rfl,h⟩
  ·obtain ⟨i,b',h1,h2⟩:=aaq h;exact ⟨i+1,b',by simpa using h1,by rw[h2];congr 1;omega⟩
theorem aar {σ:List Place}: ∀{bs:List ah} {n i:Nat} {b:ah},bs[i]? =some b→(n+i,yl σ b)∈uV σ n bs
 | [],n,i,b,h=>by simp at h
 | b0::bs,n,i,b,h=>by
  simp only[uV,fj];cases i with
  | zero=>simp at h;subst h;exact .inl rfl
  | succ i=>exact .inr (by rw[show n+(i+1)=n+1+i by omega];exact aar (by simpa using h))
theorem L0: ∀{k n i:Nat},i<k→(wQ n k)[i]? =some (.blk (n+i))
 | 0,n,i,h=>by omega
 | k+1,n,0,h=>rfl
 | k+1,n,i+1,h=>by
  simp only[wQ,List.getElem?_cons_succ];rw[L0 (by omega)];congr 2;omega
theorem RL: ∀{k n:Nat},(wQ n k).length=k
 | 0,_=>rfl
 | k+1,n=>by simp[wQ,RL]
theorem aas: ∀{bs:List (Nat×ah)} {k:Rd R} {r:R} {rd:List Nat},(JO bs k).run C hp=some (r,rd)→(∀q∈bs,hp q.1=none)∧∃gU,k.run C hp=some (r,gU)
 | [],k,r,rd,h=>⟨by simp,rd,h⟩
 | (id,b)::l,k,r,rd,h=>by
  simp only[JO] at h;obtain ⟨l1,h⟩:=run_get h;cases ae:hp id with
  | some blk=>rw[ae] at h;cases h
  | none=>
   rw[ae] at h;obtain ⟨h1,h2⟩:=aas h;refine ⟨fun q hq=> ?_,h2⟩;rcases fj.1 hq with e|hq
   ·subst e;exact ae
   ·exact h1 q hq
structure uc (σ:List Place) (cM:Nat→Option Nat) (bP:Nat→Option ah) (β':Nat→Option Nat) (hp':Nat→Option ah):Prop where
 blk: ∀j b,bP j=some b→∃id b',gv σ j=some (.blk id)∧hp' id=some b'∧jM σ b b'∧(b≠ .dead→β' id=cM j)
 none: ∀j,bP j=none→gv σ j=none
 azf: ∀j id ver path,gv σ j≠some (.row id ver path)
theorem uc.leaf {σ:List Place} (T:uc σ cM bP β' hp') {v:Value} {x:V} (h:aj P w I cM bP v x):aj P w I β' hp' v (mF σ x):=by
 have look: ∀{j b},bP j=some b→∃id b',gv σ j=some (.blk id)∧hp' id=some b'∧jM σ b b'∧(b≠ .dead→β' id=cM j):=fun h=>T.blk _ _ h;cases h with
 | undef=>exact .undef
 | int=>exact .int
 | bool=>exact .bool
 | str h=>exact .str h
 | list h=>exact .list h
 | nilS=>exact .nilS
 | nl h h0=>exact .nl h h0
 | agg=>exact .undef
 | bf=>exact .undef
 | eG=>exact .eG
 | fn=>exact .undef
 | pref a b c=>exact .pref a b c
 | @eb _ e j h=>
  obtain ⟨id,b',k1,k2,k3,k4⟩:=look h;simp only[mF,k1];cases k3;exact .eb k2
 | @jF _ e j _ _ h=>
  obtain ⟨id,b',k1,k2,k3,k4⟩:=look h;simp only[mF,k1];cases k3;exact .jF k2
 | @mH _ j _ _ h=>
  obtain ⟨id,b',k1,k2,k3,k4⟩:=look h;simp only[mF,k1];cases k3;exact .mH k2
 | @dX e j fz _ h hb=>
  obtain ⟨id,b',k1,k2,k3,k4⟩:=look h;simp only[mF,k1];cases k3;exact .dX k2 ((k4 (by simp)).trans hb)
 | @whole e j es fz b cap h hb a1 a2 a3=>
  obtain ⟨id,b',k1,k2,k3,k4⟩:=look h;simp only[mF,k1];cases k3;exact .whole k2 ((k4 (by simp)).trans hb) a1 a2 a3
 | @dP e j es vers b cap h hb a1 a2 a3=>
  obtain ⟨id,b',k1,k2,k3,k4⟩:=look h;simp only[mF,k1];cases k3;exact .dP k2 ((k4 (by simp)).trans hb) a1 a2 a3
 | @fF e j i es vers b cap h hb a1 a2 a3=>
  obtain ⟨id,b',k1,k2,k3,k4⟩:=look h;simp only[mF,k1];cases k3;exact .eb k2
 | @eh e j vers _ h hb=>
  obtain ⟨id,b',k1,k2,k3,k4⟩:=look h;simp only[mF,k1];cases k3;exact .eh k2 ((k4 (by simp)).trans hb)
 | @jb e j fz _ h hb=>
  obtain ⟨id,b',k1,k2,k3,k4⟩:=look h;simp only[mF,k1];cases k3;exact .jb k2 ((k4 (by simp)).trans hb)
 | @sub e j off len es fz b o cap h hb a1 a2 a3=>
  obtain ⟨id,b',k1,k2,k3,k4⟩:=look h;simp only[mF,k1];cases k3;exact .sub k2 ((k4 (by simp)).trans hb) a1 a2 a3
 | @ptr j i c b blk h hd hb=>
  obtain ⟨id,b',k1,k2,k3,k4⟩:=look h;simp only[mF,k1];by_cases fS:b'= .dead
  ·subst fS;exact .mH k2
  have hs:blk.sz P=b'.sz P:=by cases k3<;>first|rfl|exact absurd rfl fS
  rw[hs];exact .ptr k2 fS ((k4 hd).trans hb)
 | mI=>exact .undef
 | mJ=>exact .undef
 | row=>exact .undef
 | dI=>exact .undef
 | fk=>exact .fk
 | @lC _ t j h=>
  obtain ⟨id,b',k1,k2,k3,k4⟩:=look h;simp only[mF,k1];cases k3;exact .lC k2
 | @cY t j b es h hb=>
  obtain ⟨id,b',k1,k2,k3,k4⟩:=look h;simp only[mF,k1];cases k3;exact .cY k2 ((k4 (by simp)).trans hb)
theorem uc.one {σ:List Place} (T:uc σ cM bP β' hp') {v:Value} {x:V} (h:aj P w I cM bP v x):aj P w I β' hp' v (Ph σ x):=by
 cases x with
 | agg xs=>
  obtain ⟨cs,rfl,e1,e2⟩:=h.np;exact .agg (by simpa using e1) fun j v y hj hy=>by
   rw[kf] at hy;cases hx:xs[j]? with
   | none=>rw[hx] at hy;cases hy
   | some x=>rw[hx] at hy;cases hy;exact T.leaf (e2 j v x hj hx)
 | fn f a b=>
  cases h with
  | fn a1 a2 b1 b2=>
   refine .fn (by simpa using a1) (fun j v y hj hy=> ?_) (by simpa using b1) (fun j v y hj hy=> ?_)
   ·rw[kf] at hy;cases hx:a[j]? with
    | none=>rw[hx] at hy;cases hy
    | some x=>rw[hx] at hy;cases hy;exact T.leaf (a2 j v x hj hx)
   ·rw[kf] at hy;cases hx:b[j]? with
    | none=>rw[hx] at hy;cases hy
    | some x=>rw[hx] at hy;cases hy;exact T.leaf (b2 j v x hj hx)
 | _=>exact T.leaf h
theorem uc.val {σ:List Place} (T:uc σ cM bP β' hp') {v:Value} {x:V} (h:aj P w I cM bP v x):aj P w I β' hp' v (JN σ x):=by
 cases x with
 | bf xs=>
  obtain ⟨cs,rfl,e1,e2⟩:=h.yB;exact .bf (by simpa using e1) fun j v y hj hy=>by
   rw[kf] at hy;cases hx:xs[j]? with
   | none=>rw[hx] at hy;cases hy
   | some x=>rw[hx] at hy;cases hy;exact T.one (e2 j v x hj hx)
 | _=>exact T.one h
theorem uc.aat {σ:List Place} (T:uc σ cM bP β' hp') {o:Option Nat} {b b':ah} (h:fc P w I cM bP o b) (hb:jM σ b b'):fc P w I β' hp' o b':=by
 cases hb with
 | dead=>exact .dead
 | var=>
  cases h with
  | var a1 a2 a3 a4 a5 a6=>
   refine .var a1 a2 (by simpa using a3) a4 (fun j v y hj hy=> ?_) a6;rw[kf] at hy;cases hx:(_:List V)[j]? with
   | none=>rw[hx] at hy;cases hy
   | some x=>rw[hx] at hy;cases hy;exact T.val (a5 j v x hj hx)
 | arr=>
  cases h with
  | ez hb=>exact .ez hb
  | arr a0 a1 a2 a3 a4 a5 a6 a7=>exact .arr a0 a1 a2 a3 a4 a5 a6 a7
 | nest=>
  cases h with
  | nest a1 a2 a3=>exact .nest a1 a2 a3
  | jc a1=>exact .jc a1
 | map=>
  cases h with
  | map a1 a2 a3 a4 a5 a6 a7=>exact .map a1 a2 a3 a4 a5 a6 a7
 | out=>exact .dead
theorem jM.zo {σ:List Place} {o:Option Nat} {b b':ah} (h:jM σ b b') {m:Nat} (ho:bh P w o b' m):bh P w o b m:=by
 cases h with
 | dead=>exact absurd rfl ho.alive
 | var=>exact .root (by simp) (ho.flat (by simp))
 | arr=>exact .root (by simp) (ho.flat (by simp))
 | map=>exact .root (by simp) (ho.flat (by simp))
 | out=>exact absurd rfl ho.alive
 | nest=>
  cases ho with
  | root _ hb=>exact .root (by simp) hb
  | row hb ha=>exact .row hb ha
theorem jM.aau {σ:List Place} {b b':ah} (h:jM σ b b'):b'≠ .dead→b≠ .dead:=by
 intro h1 h2;subst h2;cases h;exact h1 rfl
end
section
variable {P:Program} {A:dw} {w w':World} {I I' I2:Nat→Nat→Prop} {μ β β' cM:Nat→Option Nat} {hp hp' hp0 bP:Nat→Option ah} {C:af} {B:Nat} {M:Nat→Prop} {w0:Start}
theorem aav: ∀{vs:List Nat} {k:Nat},k<vs.length→bB (vs.map (· +1)) k=bB vs k+1
 | [],k,h=>by simp at h
 | v::vs,0,h=>rfl
 | v::vs,k+1,h=>by simp only[lu,bB];exact aav (by grind)
theorem aaw: ∀{vs:List Nat} {k:Nat},bB vs k≤bB (vs.map (· +1)) k
 | [],k=>by grind
 | v::vs,0=>by simp[bB]
 | v::vs,k+1=>by simp only[lu,bB];exact aaw
def GD (hp:Nat→Option ah) (q:Nat×ah):Prop:=(∃e es v2,q.2= .nest e es v2)→∃e es vers e' aL,hp q.1=some (.nest e es vers)∧q.2= .nest e' aL (vers.map (· +1))
theorem gm.RM {id:Nat} {o:Option Nat} {blk:ah} (h:gm P w β hp (.blk id) o blk):o=β id∧∃b0,hp id=some b0∧b0≠ .dead:=by
 cases h with
 | var h=>grind
 | arr h=>grind
 | nest h=>grind
 | map h=>grind
theorem gm.al6 {id:Nat} {o:Option Nat} {c b b' b0:ah} {σ:List Place} (h:gm P w β hp (.blk id) o c) (h0:hp id=some b0) (hle:c.le b) (hb:jM σ b b') (hn:GD hp (id,b')):b0.le b':=by
 cases h with
 | var h=>
  rw[h] at h0;cases h0;cases hb with
  | dead=>trivial
  | out=>trivial
  | var=>trivial
  | arr=>exact hle.elim
  | nest=>exact hle.elim
  | map=>exact hle.elim
 | arr h=>
  rw[h] at h0;cases h0;cases hb with
  | dead=>trivial
  | out=>trivial
  | var=>exact hle.elim
  | arr=>exact hle
  | nest=>exact hle.elim
  | map=>omega
 | map h=>
  rw[h] at h0;cases h0;cases hb with
  | dead=>trivial
  | out=>trivial
  | map=>exact hle
  | _=>exact hle.elim
 | nest h=>
  rw[h] at h0;cases h0;cases hb with
  | dead=>trivial
  | out=>trivial
  | var=>exact hle.elim
  | arr=>exact hle
  | map=>exact hle.elim
  | @nest e es v1 v2=>
   obtain ⟨e1,dn,w6,e2,bW,k1,k2⟩:=hn ⟨_,_,_,rfl⟩;cases k2;change hp id=_ at k1;rw[h] at k1;cases k1;exact ⟨hle.1,hle.2.1,by simp,fun k=>aaw⟩
theorem gm.other {p:Place} {o:Option Nat} {blk:ah} (h:gm P w β hp p o blk) (he:hp' p.id=hp p.id):gm P w β hp' p o blk:=by
 cases h with
 | var h=>exact .var (he.trans h)
 | arr h=>exact .arr (he.trans h)
 | nest h=>exact .nest (he.trans h)
 | map h=>exact .map (he.trans h)
 | row h a b c d e f g=>exact .row (he.trans h) a b c d e f g
open Classical in
theorem aax (S:aC P w I β hp B M w0) {pl:List Place} {o:Nat→Option Nat} {bs:List ah} {nb:Nat} {bk fr:List (Nat×ah)} {σ:List Place} (vL:σ=pl++wQ nb (bs.length-pl.length)) (GF:fr=uV σ nb (bs.drop pl.length))
  (oo:(pl.map Place.id).Nodup) (su:pl.length≤bs.length)
  (BY: ∀(j:Nat) p,pl[j]? =some p→∃id b,p= .blk id∧(id,b)∈bk) (vM: ∀q∈bk,∃(j:Nat) (b:ah),pl[j]? =some (.blk q.1)∧bs[j]? =some b∧jM σ b q.2∧GD hp q)
  (hl: ∀j blk,hp0 j=some blk→∃p,gv pl j=some p∧gm P w β hp p (o j) blk) (hd: ∀j,j<pl.length→∃blk,hp0 j=some blk)
  (Sc:aC P w' I2 cM (nj bs) w.heap.size (sQ P w o hp0) ⟨w,I⟩) (Cz:oN w I o hp0 w' I2 cM (nj bs)) (CA: ∀q∈fr,hp q.1=none):
  ∃β',Le P w I β hp w' I2 β' (cf hp (fr++bk))∧aC P w' I2 β' (cf hp (fr++bk)) B M w0∧uc σ cM (nj bs) β' (cf hp (fr++bk)):=by
 generalize RN:cf hp (fr++bk)=gh
 let β':Nat→Option Nat:=fun n=>if∃q∈fr,q.1=n then cM (pl.length+(n-nb)) else β n
 have aay: ∀(j:Nat) id,pl[j]? =some (.blk id)→∃c,hp0 j=some c∧gm P w β hp (.blk id) (o j) c:=by
  intro j id hj;obtain ⟨c,hc⟩:=hd j (cC.1 hj).1;obtain ⟨p,h1,h2⟩:=hl j c hc;rw[pM,hj] at h1;cases h1;exact ⟨c,hc,h2⟩
 have uniq: ∀(j1 j2:Nat) id,pl[j1]? =some (.blk id)→pl[j2]? =some (.blk id)→j1=j2:=by
  intro j1 j2 id h1 h2;have m1:(pl.map Place.id)[j1]? =some id:=by rw[kf,h1];rfl
  have m2:(pl.map Place.id)[j2]? =some id:=by rw[kf,h2];rfl
  obtain ⟨z1,z2⟩:=cC.1 m1;obtain ⟨z3,z4⟩:=cC.1 m2;exact (List.getElem_inj oo).1 (z2.trans z4.symm)
 have cls: ∀id,(∃i b,id=nb+i∧bs[pl.length+i]? =some b∧gh id=some (yl σ b)∧hp id=none∧β' id=cM (pl.length+i))∨
   (∃(j:Nat) (b b' c b0:ah),pl[j]? =some (.blk id)∧bs[j]? =some b∧hp0 j=some c∧gm P w β hp (.blk id) (o j) c∧hp id=some b0∧b0.le b'∧gh id=some b'∧jM σ b b'∧GD hp (id,b')∧β' id=β id∧c.le b∧(b≠ .dead→cM j=β id))∨
   (gh id=hp id∧(∀j:Nat,pl[j]? ≠some (.blk id))∧β' id=β id):=by
  intro id;by_cases hm: ∃b,(id,b)∈fr++bk
  ·obtain ⟨b,hm⟩:=hm;obtain ⟨b',J1,he⟩:=JY (hp:=hp) hm;rw[RN] at he;rcases fb.1 J1 with h|h
   ·have h0:=CA _ h;have sR:β' id=cM (pl.length+(id-nb)):=aA ⟨_,h,rfl⟩;rw[GF] at h;obtain ⟨i,b1,k1,k2⟩:=aaq h;rw[qX] at k1;cases k2;exact .inl ⟨i,b1,rfl,k1,he,h0,by rw[sR];congr 2;omega⟩
   ·obtain ⟨j,b1,q1,q2,q3,q4⟩:=vM _ h;obtain ⟨c,c1,c2⟩:=aay j id q1;obtain ⟨c3,b0,c4,c5⟩:=c2.RM;obtain ⟨b2,d1,d2,d3⟩:=Cz.blk j c c1;rw[ld,q2] at d1;cases d1;refine .inr (.inl ⟨j,b1,b',c,b0,q1,q2,c1,c2,c4,c2.al6 c4 d2 q3 q4,he,q3,q4,aw ?_,d2,fun h=>(d3 h).trans c3⟩);rintro ⟨q,hq,hqe⟩;rw[←hqe,CA q hq] at c4;cases c4
  ·refine .inr (.inr ⟨?_,fun j hj=> ?_,aw ?_⟩)
   ·rcases w5 (hp:=hp) (l:=fr++bk) (id:=id) with h|⟨b,hb,_⟩
    ·rw[RN] at h;exact h
    ·exact absurd ⟨b,hb⟩ hm
   ·obtain ⟨aq,b,e,hb⟩:=BY j _ hj;cases e;exact hm ⟨b,fb.2 (.inr hb)⟩
   ·rintro ⟨q,hq,rfl⟩;exact hm ⟨q.2,fb.2 (.inl hq)⟩
 have aaz: ∀b,sQ P w o hp0 b→∃(j id:Nat) (b1:ah),pl[j]? =some (.blk id)∧hp id=some b1∧bh P w (β id) b1 b:=by
  rintro b ⟨j,c,hc,ho⟩;obtain ⟨p,h1,h2⟩:=hl j c hc;rw[pM] at h1;obtain ⟨id,b2,rfl,_⟩:=BY j p h1;obtain ⟨b1,k1,k2,_⟩:=h2.zo ho;exact ⟨j,id,b1,h1,k1,k2⟩
 have other: ∀id blk b,hp id=some blk→bh P w (β id) blk b→(∀j:Nat,pl[j]? ≠some (.blk id))→¬sQ P w o hp0 b∧w'.heap[b]? =w.heap[b]? ∧(∀j,I2 b j→I b j):=by
  intro id blk b e1 e3 e4;have ud: ¬sQ P w o hp0 b:=by
   intro hx;obtain ⟨j,aq,b1,i1,i2,i3⟩:=aaz b hx;have:=S.h.inj id aq _ _ b e1 i2 e3 i3;subst this;exact e4 j i1
  have aR:=S.h.lt e1 e3;refine ⟨ud,Sc.cQ b aR ud,fun j h=> ?_⟩;rcases Sc.new b j h with h|h|h
  ·exact h
  ·exact absurd h ud
  ·omega
 have xq:uc σ cM (nj bs) β' gh:=by
  refine ⟨fun j b hj=> ?_,fun j hj=> ?_,fun j id ver path hj=> ?_⟩
  ·rw[ld] at hj;by_cases dr:j<pl.length
   ·obtain ⟨id,b1,e,rF⟩:=BY j _ (b7 dr);have L3:pl[j]? =some (.blk id):=by rw[b7 dr,e]
    have RO:gv σ j=some (.blk id):=by rw[vL];exact sP (by rw[pM];exact L3)
    rcases cls id with ⟨i,b2,c1,c2,c3,c4,c5⟩|⟨j',b2,b',c,b0,q1,q2,q3,q4,q5,q6,q7,q8,q9,ue,CB,vN⟩|⟨c1,c2,c3⟩
    ·obtain ⟨c,d1,d2⟩:=aay j id L3;obtain ⟨_,b0,d3,_⟩:=d2.RM;rw[d3] at c4;cases c4
    ·obtain rfl:=uniq _ _ _ q1 L3;rw[hj] at q2;cases q2;exact ⟨id,b',RO,q7,q8,fun h=>ue.trans (vN h).symm⟩
    ·exact absurd L3 (c2 j)
   ·have hjb:=(cC.1 hj).1;have RO:gv σ j=some (.blk (nb+(j-pl.length))):=by
     rw[vL,pM,oC (by omega)];exact L0 (by omega)
    have hm:(nb+(j-pl.length),yl σ b)∈fr:=by
     rw[GF];refine aar ?_;rw[qX,show pl.length+(j-pl.length)=j by omega];exact hj
    rcases cls (nb+(j-pl.length)) with ⟨i,b2,c1,c2,c3,c4,c5⟩|⟨j',b2,b',c,b0,q1,q2,q3,q4,q5,q6,q7,q8,q9,ue,CB,vN⟩|⟨c1,c2,c3⟩
    ·have hi:i=j-pl.length:=by omega
     subst hi;rw[show pl.length+(j-pl.length)=j by omega] at c2 c5;rw[hj] at c2;cases c2;exact ⟨_,_,RO,c3,.of σ _,fun _=>c5⟩
    ·rw[CA _ hm] at q5;cases q5
    ·obtain ⟨b',J1,he⟩:=JY (hp:=hp) (l:=fr++bk) (fb.2 (.inl hm));rw[RN,c1,CA _ hm] at he;cases he
  ·rw[ld] at hj;have:=List.getElem?_eq_none_iff.1 hj;rw[vL,pM,List.getElem?_eq_none_iff,iA,RL];omega
  ·rw[vL,pM] at hj;by_cases dr:j<pl.length
   ·rw[ng dr] at hj;obtain ⟨aq,b1,e,_⟩:=BY j _ hj;cases e
   ·have hjb:j-pl.length<bs.length-pl.length:=by
     have:=(cC.1 hj).1;rw[iA,RL] at this;omega
    rw[oC (by omega),L0 hjb] at hj;cases hj
 have hle:Le P w I β hp w' I2 β' gh:=by
  refine ⟨Cz.ej,Cz.cQ,fun id blk ae=> ?_,fun id blk blk' b ae bX vO hb=> ?_,fun id e es vers e' aL vers' b q i c t v e1 l ae bX hb aR hv ht hc=> ?_⟩
  ·rcases cls id with ⟨i,b2,c1,c2,c3,c4,c5⟩|⟨j',b2,b',c,b0,q1,q2,q3,q4,q5,q6,q7,q8,q9,ue,CB,vN⟩|⟨c1,c2,c3⟩
   ·rw[ae] at c4;cases c4
   ·rw[ae] at q5;cases q5;exact ⟨b',q7,q6,fun _=>ue⟩
   ·exact ⟨blk,c1.trans ae,ah.le_refl _,fun _=>c3⟩
  ·rcases cls id with ⟨i,b2,c1,c2,c3,c4,c5⟩|⟨j',b2,b',c,b0,q1,q2,q3,q4,q5,q6,q7,q8,q9,ue,CB,vN⟩|⟨c1,c2,c3⟩
   ·rw[ae] at c4;cases c4
   ·rw[q7] at bX;cases bX;exact Cz.size j' c b2 b q3 (by rw[ld];exact q2) (q8.aau vO) (q4.RM.1.trans hb)
   ·rw[c1,ae] at bX;cases bX;simp only[bsize,(other id blk b ae (.root vO hb) c2).2.1]
  ·rcases cls id with ⟨i2,b2,c1,c2,c3,c4,c5⟩|⟨j',b2,b',c',b0,q1,q2,q3,q4,q5,q6,q7,q8,q9,ue,CB,vN⟩|⟨c1,c2,c3⟩
   ·rw[ae] at c4;cases c4
   ·rw[q7] at bX;cases bX;obtain ⟨_,_,w6,_,_,k1,k2⟩:=q9 ⟨_,_,_,rfl⟩;change hp id=_ at k1;rw[ae] at k1;cases k1;cases k2;rw[aav aR] at hv;omega
   ·rw[c1,ae] at bX;cases bX;exact ⟨l,rfl,hc.mono fun _ _ _ _ h=>(other id _ _ ae (.row hb h) c2).2.1⟩
 have place: ∀id blk b,gh id=some blk→bh P w' (β' id) blk b→(∃j c,nj bs j=some c∧bh P w' (cM j) c b∧gv σ j=some (.blk id))∨(b<w.heap.size∧¬sQ P w o hp0 b∧hp id=some blk∧bh P w (β id) blk b):=by
  intro id blk b e1 e3;rcases cls id with ⟨i,b2,c1,c2,c3,c4,c5⟩|⟨j',b2,b',c,b0,q1,q2,q3,q4,q5,q6,q7,q8,q9,ue,CB,vN⟩|⟨c1,c2,c3⟩
  ·rw[c3] at e1;cases e1;rw[c5] at e3;refine .inl ⟨pl.length+i,b2,by rw[ld];exact c2,(jM.of σ b2).zo e3,?_⟩;have:=(cC.1 c2).1;rw[vL,pM,oC (by omega),L0 (by omega),c1];congr 3;omega
  ·rw[q7] at e1;cases e1;have vO:b2≠ .dead:=q8.aau e3.alive;rw[ue,←vN vO] at e3;exact .inl ⟨j',b2,by rw[ld];exact q2,q8.zo e3,by rw[vL];exact sP (by rw[pM];exact q1)⟩
  ·rw[c1] at e1;rw[c3] at e3;have:=e3.mono (w:=w) fun b hb=>(other id blk b e1 hb c2).2.1;exact .inr ⟨S.h.lt e1 this,(other id blk b e1 this c2).1,e1,this⟩
 have wY: ∀b,sQ P w o hp0 b∨w.heap.size≤b→M b∨B≤b:=by
  rintro b (h|h)
  ·obtain ⟨j,id,b1,i1,i2,i3⟩:=aaz b h;exact S.h.own id b1 b i2 i3
  ·exact .inr (lZ S.size h)
 have RP: ∀j c b,nj bs j=some c→bh P w' (cM j) c b→sQ P w o hp0 b∨w.heap.size≤b:=fun j c b h1 h2=>Sc.h.own j c b h1 h2;refine ⟨β',hle,⟨⟨fun id blk ae=> ?_,fun i1 i2 b1 b2 b e1 e2 f1 f2=> ?_,fun id blk b ae hb=> ?_,Sc.h.jV⟩,fun b hb hM=> ?_,lZ S.size Sc.size,fun b j hb=> ?_,⟨Sc.io.1.trans S.io.1,Sc.io.2.trans S.io.2⟩⟩,xq⟩
 ·rcases cls id with ⟨i,b2,c1,c2,c3,c4,c5⟩|⟨j',b2,b',c,b0,q1,q2,q3,q4,q5,q6,q7,q8,q9,ue,CB,vN⟩|⟨c1,c2,c3⟩
  ·rw[c3] at ae;cases ae;rw[c5];exact xq.aat (Sc.h.rel _ b2 (by rw[ld];exact c2)) (.of σ b2)
  ·rw[q7] at ae;cases ae;have:=xq.aat (Sc.h.rel j' b2 (by rw[ld];exact q2)) q8;by_cases vO:b2= .dead
   ·subst vO;cases q8;exact .dead
   ·rw[ue,←vN vO];exact this
  ·rw[c1] at ae;rw[c3];exact (S.h.rel id blk ae).mono hle fun b hb=>(other id blk b ae hb c2).2
 ·rcases place i1 b1 b e1 f1 with ⟨j1,c1,g1,g2,g3⟩|⟨g1,g2,g3,g4⟩<;>rcases place i2 b2 b e2 f2 with ⟨j2,c2,k1,k2,k3⟩|⟨k1,k2,k3,k4⟩
  ·have:=Sc.h.inj j1 j2 c1 c2 b g1 k1 g2 k2;subst this;rw[g3] at k3;cases k3;rfl
  ·rcases RP j1 c1 b g1 g2 with h|h
   ·exact absurd h k2
   ·omega
  ·rcases RP j2 c2 b k1 k2 with h|h
   ·exact absurd h g2
   ·omega
  ·exact S.h.inj i1 i2 _ _ b g3 k3 g4 k4
 ·rcases place id blk b ae hb with ⟨j1,c1,g1,g2,g3⟩|⟨g1,g2,g3,g4⟩
  ·exact wY b (RP j1 c1 b g1 g2)
  ·exact S.h.own id blk b g3 g4
 ·refine (Sc.cQ b (oA hb S.size) fun hx=> ?_).trans (S.cQ b hb hM)
  rcases wY b (.inl hx) with h|h
  ·exact hM h
  ·omega
 ·rcases Sc.new b j hb with h|h|h
  ·exact S.new b j h
  ·exact .inr (wY b (.inl h))
  ·exact .inr (wY b (.inr h))
end
section
variable {P:Program} {A:dw} {w w':World} {I I' I2:Nat→Nat→Prop} {μ β β' cM:Nat→Option Nat} {hp hp' hp0 bP:Nat→Option ah} {C:af} {B:Nat} {M:Nat→Prop} {w0:Start}
theorem aaA (hp:Nat→Option ah): ∀(a b:List (Nat×ah)),cf hp (a++b)=cf (cf hp b) a
 | [],b=>rfl
 | (i,x)::a,b=>by simp only[List.cons_append,cf,aaA hp a b]
theorem CD {hp:Nat→Option ah} {l:List (Nat×ah)} {id:Nat} (h: ∀q∈l,q.1≠id):cf hp l id=hp id:=by
 rcases w5 (hp:=hp) (l:=l) (id:=id) with h1|⟨b,hb,_⟩
 all_goals grind
def zp (P : Program) : Prop := ∀ (f : Nat) fn, P.funcs[f]? = some fn → (fn.name == "runtime.NumGoroutine") = false
def L4 (P:Program) (f:FuncId) (e:TypeId):Prop:=
 (∀args w,(callFunc f args).run P w= .ok (.enter f args) w)∧∃t,P.underlying t=some (.slice e)∧
  ∀(s:Value) (w:World) (Q:Ending→World→Prop),(s= .slice none 0 0→Q (.returned (.slice none 0 0)) w)→
   (∀a n c,s= .slice (some a) n c→∃v w',(Builtin.append_ #[t,t] t #[.slice (some ⟨w.heap.size,0,none⟩) 0 0,s]).run P (w.alloc (.cells #[] e))= .ok v w'∧Q (.returned v) w')→
   (s= .slice none 0 0∨∃a n c,s= .slice (some a) n c)→Calls P f #[s] w Q
structure lf (P:Program) (A:dw):Prop where
 count:zp P
 ext: ∀f T,A.ext f=some T→∀(b:Nat) (C:Array Value) (w:World),w.heap[b]? =some (.cells C T (0,0))→C.size=P.cellsOf T→(C[0]? =some (.pointer none)∨C[0]? =some (.pointer (some ⟨b,0,none⟩)))→
  (callFunc f #[.pointer (some ⟨b,0,none⟩)]).run P w= .ok (.enter f #[.pointer (some ⟨b,0,none⟩)]) w∧
  Calls P f #[.pointer (some ⟨b,0,none⟩)] w fun e w'=>e= .returned (.tuple #[])∧(w'=w∨w'=w.setCell ⟨b,0,none⟩ (.pointer (some ⟨b,0,none⟩)))
 idle: ∀f,A.idle f=true→(∀args w,(callFunc f args).run P w= .ok (.enter f args) w)∧
  ∀args w,CallsD P f args .returning w fun e u' w'=>(∃v,e= .returned v)∧u'= .returning∧w'=w
 sc: ∀f e,A.sc f=some e→L4 P f e
 RQ: ∀f T,A.ext f=some T→P.cellsOf T=0→∀(s:ByteArray) (c:Int) (w:World),(callFunc f #[.string s,.int .u8 c]).run P w= .ok (.value (.int .i64 (Lib.indexByte s.data.toList c.toNat.toUInt8))) w
theorem lf.here {P:Program} {A:dw} (h:lf P A) (f id:Nat):lf P (A.here f id):=⟨h.count,h.ext,h.idle,h.sc,h.RQ⟩
def GG (E:FuncId→Bool) (d:Deferred):Prop:= ∃f cap,d.target= .fn (.func f) cap∧E f=true
theorem RR {P:Program} {A:dw} (hP:lf P A) {fn:Func} {tmps:Array Value} {R:Ending→World→Prop} {w:World} {v:Value} (hv:(results fn tmps).run P w= .ok v w) (hR:R (.returned v) w):
  ∀ds:List Deferred,(∀d∈ds,GG A.idle d)→Leaves P fn tmps R ds .returning w
 | [],_=>⟨v,hv,hR⟩
 | d::ds,h=>by
  obtain ⟨f,cap,ht,hf⟩:=h d (by simp);obtain ⟨k1,k2⟩:=hP.idle f hf;obtain ⟨t,das⟩:=d;simp only at ht;subst ht;refine leaves_cons (f:=f) (args:=das++cap) (by simp) ?_ ?_
  ·simp only[invoke];grind
  ·refine (k2 (das++cap) w).mono fun e u' w' hr=> ?_;obtain ⟨⟨v',rfl⟩,rfl,rfl⟩:=hr;exact RR hP hv hR ds fun d hd=>h d (ju _ hd)
def CE (P:Program) (A:dw) (o:Oper) (a:Act) (w:World) (I:Nat→Nat→Prop) (β:Nat→Option Nat) (hp:Nat→Option ah) (B:Nat) (M:Nat→Prop) (w0:Start) (r:R):Prop:=
 ∀(next:Act→World→Prop) (Q:Exit→Act→World→Prop),
  (∀v w' I' β' ds,Le P w I β hp w' I' β' (cf hp r.upd)→aC P w' I' β' (cf hp r.upd) B M w0→aj P w' I' β' (cf hp r.upd) v r.v→(∀d∈ds,d∈a.defers∨GG A.idle d)→next ({a with defers:=ds}.put o.dst v) w')→o.wp P a w next Q
theorem sx.step {o:Oper} {a:Act} {r:R} (h:sx P ((execOp a.eval o).run P w) w I β hp B M w0 r):CE P A o a w I β hp B M w0 r:=by
 obtain ⟨v,w',I',β',h1,h2,h3,h4⟩:=h;intro next Q hn
 unfold Oper.wp;rcases h1 with h1|⟨h1,rfl⟩
 ·rw[h1];exact hn v w' I' β' a.defers h2 h3 h4 fun d hd=> .inl hd
 ·rw[h1];exact hn _ w' I' β' a.defers h2 h3 h4 fun d hd=> .inl hd
theorem aaB: ∀(l:List (Nat×VS)),sd l=wP (l.map (·.2))
 | []=>rfl
 | (_,s)::l=>by simp only[sd,lu,wP,aaB l]
theorem al7 (hC:oO P A C) (S:aC P w I β hp B M w0) (hg:jW P A.aE w I) {vals:List Value} {args:List V} {nb key:Nat} {f:FuncId} {r:R} {rd:List Nat} (hlen:vals.length=args.length)
  (cT: ∀(j:Nat) v x,vals[j]? =some v→args[j]? =some x→aj P w I β hp v x) (h:(Er P A nb key f args).run C hp=some (r,rd)):
  ∃fn c,P.funcs[f]? =some fn∧fn.body=some c∧Calls P f vals.toArray w fun e w'=> ∃v I' β',e= .returned v∧Le P w I β hp w' I' β' (cf hp r.upd)∧aC P w' I' β' (cf hp r.upd) B M w0∧aj P w' I' β' (cf hp r.upd) v r.v:=by
 unfold Er at h;obtain ⟨aaC,h0⟩:=aD h;clear h;rw[aM] at aaC;subst aaC;obtain ⟨h1,jL,d1,u1,a1,a2,a3,a5,a4⟩:=RJ S h0 hlen cT;obtain ⟨h2,xB,d2,u2,b1,b2,b3,b4⟩:=aai S a1;clear h0 a1;obtain ⟨hc,h3⟩:=aD b1;clear b1;simp only[aK,aM,nc] at hc;obtain ⟨eH,LY⟩:=hc;have L5:=a2.trans b2;have oY:h2.ds=d1++d2:=by have:=L5.ds;grind
 have vF:h2.upd=u1++u2:=by have:=L5.upd;grind
 have oo:(h2.pl.map Place.id).Nodup:=L5.nodup (by simp);obtain ⟨c1,o,c2,c3⟩:=b4 [];simp only[rY] at c1 c2 c3;cases GH:C key h2.ds with
 | none=>
  simp only[Rd.run,GH] at h3;cases h3
 | some es=>
  have u9: ∃gU,(Ep P (A.so key es) nb h2 (A.lv key es)).run C hp=some (r,gU):=by
   obtain ⟨x,hx,e⟩:=bind_some h3;rw[GH] at hx;cases hx;unfold dw.so dw.lv;cases dv:A.alt key with
   | none=>grind
   | some S2=>
    rw[dv] at e;simp only[Rd.run] at e;grind
  clear h3;obtain ⟨gU,h3⟩:=u9;unfold Ep at h3;simp only at h3;generalize kq:im (A.so key es).c7 ((A.lv key es).drop (sd (A.so key es).cx))=bs at h3;generalize vL:h2.pl++wQ nb (bs.length-h2.pl.length)=σ at h3;generalize GF:uV σ nb (bs.drop h2.pl.length)=fr at h3;obtain ⟨p0,bk,rd4,p1,p2,_,p3⟩:=aap h3;obtain ⟨CA,rd5,p4⟩:=aas p1;obtain ⟨zq,p4⟩:=aD p4;obtain rfl:=aN p4;have su:h2.pl.length≤bs.length:=by grind
  have vM: ∀q∈bk,∃(j:Nat) (b:ah),h2.pl[j]? =some (.blk q.1)∧bs[j]? =some b∧jM σ b q.2∧GD hp q:=by
   intro q hq;rcases p2 q hq with hx|⟨j,b,k1,k2,k3,k4⟩
   ·simp at hx
   ·have hj:=(cC.1 k1).1;rw[jv hj] at k2;exact ⟨j,b,k1,k2,k3,k4⟩
  obtain ⟨fn,c,hf,hb,RS⟩:=hC key h2.ds es GH;refine ⟨fn,c,hf,hb,?_⟩;have hmb:im (A.sin key).c7 (h2.ds.drop (sd (A.sin key).cx))=im (A.sin key).c7 d2:=by
   rw[oY,aaB,LR a3]
  have RT:(bQ (A.sin key) h2.ds).hp=nj (im (A.sin key).c7 d2):=by
   simp only[bQ,mk,hmb]
  have hl: ∀j blk,(bQ (A.sin key) h2.ds).hp j=some blk→∃p,gv h2.pl j=some p∧gm P w β hp p (o j) blk:=by
   intro j blk hj;rw[RT,ld] at hj;grind
  have hd: ∀j,j<h2.pl.length→∃blk,(bQ (A.sin key) h2.ds).hp j=some blk:=by
   intro j hj;rw[RT,ld];simp_all
  have aaD:Gy P w β hp h2.pl o (bQ (A.sin key) h2.ds).hp:=by
   intro j p hj;obtain ⟨blk,k1⟩:=hd j (by rw[pM] at hj;grind);grind
  have i1: ∀b j,I b j→jX P w I β hp h2.upd b j:=fun b j h=> .inl h;have entry:=al2 (hp0:=(bQ (A.sin key) h2.ds).hp) S oo LY hl (fun dp j blk hj=>by
   have fV:=hj;rw[RT,ld] at fV;exact c3 (jX P w I β hp h2.upd) o _ i1 (fun q hq b j hb=> .inr ⟨q,by grind,hb⟩) h2.pl [] (by simp) aaD j blk fV (dp j blk hj)) (fun b j h=>h.elim (S.h.jV b j) fun ⟨p,_,blk,g1,g2⟩=>S.h.lt g1 g2.own)
  have al8:vals.length=(A.sin key).cx.length:=by grind
  have ha:=RS w (jX P w I β hp h2.upd) o vals entry (hg.mono i1 fun _ _ _=>rfl) al8 fun j v x hj hx=>by
   rw[oY] at hx;exact (((a4.later b2) (jX P w I β hp h2.upd) o _ i1 (fun q hq b j hb=> .inr ⟨q,by grind,hb⟩) h2.pl [] (by simp) aaD) d2).2 j v x hj hx
  refine ha.mono fun e w' GI=> ?_;obtain ⟨v,I2,cM,rfl,ha⟩:=GI;have L6:(bQ (A.so key es) (A.lv key es)).hp=nj bs:=by simp only[bQ,mk,kq]
  cases aaE:(A.so key es).safe P with
  | true=>
   simp only[cond_true,rY];have Cs: ∀b j,I b j→I2 b j:=fun b j h=>ha.le.ej b j (i1 b j h);obtain ⟨s1,s2⟩:=al5 aaE Cs ha.Cy i1;have Cz:oN w I o (bQ (A.sin key) h2.ds).hp w' I cM (nj bs):=by
    rw[←L6];exact ⟨fun _ _ h=>h,fun b j h=>ha.le.cQ b j (i1 b j h),ha.le.blk,ha.le.size⟩
   obtain ⟨β',k1,k2,k3⟩:=aax S vL.symm GF.symm oo su p3 vM hl hd (by rw[←L6];exact ⟨s1.h,s1.cQ,s1.size,fun b j h=> .inl h,s1.io⟩) Cz CA;exact ⟨v,I,β',rfl,k1,k2,k3.val (by have:=s2 v ha.res;grind)⟩
  | false=>
   simp only[cond_false];rw[aaE,Bool.false_or,ig] at zq;have CF: ∀q∈h2.upd,Bs hp q:=fun q hq=>by
    have vA:=zq q hq;rcases L5.LU q (vF▸hq) with h|⟨T,cs,h,_⟩
    all_goals grind
   obtain ⟨rE,S1⟩:=Bw S CF;rw[←kJ,aaA];have ud: ∀p∈h2.pl,cf hp h2.upd p.id=hp p.id:=fun p hp=>CD fun q hq e=>
    LX LY (iB.2 ⟨q,hq,rfl⟩) (e▸iB.2 ⟨p,hp,rfl⟩)
   have al9: ∀q∈bk,∃(j:Nat) (b:ah),h2.pl[j]? =some (.blk q.1)∧bs[j]? =some b∧jM σ b q.2∧GD (cf hp h2.upd) q:=by
    intro q hq;obtain ⟨j,b,k1,k2,k3,k4⟩:=vM q hq;refine ⟨j,b,k1,k2,k3,fun hn=> ?_⟩;have:=ud _ (mB k1);simp only[Place.id] at this;grind
   have EG: ∀j blk,(bQ (A.sin key) h2.ds).hp j=some blk→∃p,gv h2.pl j=some p∧gm P w β (cf hp h2.upd) p (o j) blk:=by
    intro j blk hj;obtain ⟨p,k1,k2⟩:=hl j blk hj;exact ⟨p,k1,k2.other (ud p (by rw[pM] at k1;grind))⟩
   have ama: ∀q∈fr,cf hp h2.upd q.1=none:=by
    intro q hq;rw[CD fun q' dD e=> ?_]
    ·grind
    ·obtain ⟨e1,dn,_,h5⟩:=CF q' dD;grind
   obtain ⟨β',k1,k2,k3⟩:=aax S1 vL.symm GF.symm oo su p3 al9 EG hd (by rw[←L6];exact ha.Cy) (by rw[←L6];exact ha.le) ama;exact ⟨v,I2,β',rfl,rE.trans k1,k2,k3.val (by have:=ha.res;grind)⟩
theorem aaF (hC:oO P A C) (hP:lf P A) (S:aC P w I β hp B M w0) (hg:jW P A.aE w I) {a:Act} {nb key:Nat} {o:Oper} {f:FuncId} {vals:List Value} {args:List V} (hlen:vals.length=args.length)
  (cT: ∀(j:Nat) v x,vals[j]? =some v→args[j]? =some x→aj P w I β hp v x) {r:R} {rd:List Nat} (h:(Er P A nb key f args).run C hp=some (r,rd))
  (hex:(execOp a.eval o).run P w=(callFunc f vals.toArray).run P w):CE P A o a w I β hp B M w0 r:=by
 intro next Q hn
 obtain ⟨fn,c,hf,hb,RS⟩:=al7 hC S hg hlen cT h;unfold Oper.wp;rw[hex,MuLone.run_callFunc_enter hf (hP.count f _ hf) hb,Oper.upon_enter];refine RS.mono fun e w' GI=> ?_;obtain ⟨v,I2,cM,rfl,k1,k2,k3⟩:=GI;exact hn v w' I2 cM a.defers k1 k2 k3 fun d hd=> .inl hd
theorem n8.args {a:Act} {sl:Nat→V} (hs:n8 P w I β hp a sl) (hg:jW P A.aE w I) {args:Array Operand} {ts:Array TypeId} (bd:args.size=ts.size):
  (args.map a.eval).toList.length=((args.toList.zip ts.toList).map fun p=>aW P A.aE p.2 sl p.1).length∧
  ∀(j:Nat) v x,(args.map a.eval).toList[j]? =some v→((args.toList.zip ts.toList).map fun p=>aW P A.aE p.2 sl p.1)[j]? =some x→aj P w I β hp v x:=by
 refine ⟨by simp;omega,fun j v x hv hx=> ?_⟩;simp only[Array.toList_map,kf,List.getElem?_zip_eq_some,Option.map_eq_some_iff] at hv hx;obtain ⟨x1,j6,rfl⟩:=hv;obtain ⟨⟨y1,t1⟩,⟨zr,_⟩,rfl⟩:=hx;rw[j6] at zr;cases zr;exact hs.ev hg t1 _
theorem amb (hP:lf P A) (S:aC P w I β hp B M w0) (hg:jW P A.aE w I) {a:Act} {sl:Nat→V} (hs:n8 P w I β hp a sl) {dst:Option Tmp} {ty e:TypeId} {pos:String} {after:Array Edge} {guard:Option (Nat×Bool)} {f:FuncId}
  {args:Array Operand} {argTypes:Array TypeId} {nb:Nat} {r:R} {rd:List Nat} (kW:A.sc f=some e)
  (h:((match args.toList with
    | [x]=> .aB (c8 P e) (uQ e (aW P A.aE ty sl x) fun xs=> .aB (Nat.ble (xs.length*P.bytesOf e) ba) (jA nb (.arr e xs false) (.whole e nb) []))
    | _=> .fail):Rd R).run C hp=some (r,rd)):CE P A (Oper.mk dst (.call (Go.Call.mk (.value (.func f)) args argTypes)) ty pos after guard) a w I β hp B M w0 r:=by
 cases ha:args.toList with
 | nil=>rw[ha] at h;cases h
 | cons x l=>
  rw[ha] at h;cases l with
  | cons _ _=>cases h
  | nil=>
   simp only at h;have e1:args= #[x]:=by grind
   subst e1;have hx:=hs.ev hg ty x;obtain ⟨ao,h⟩:=aD h;have fin: ∀{w1:World} {tN:Nat→Option Nat},(∀id blk,hp id=some blk→fc P w1 I tN hp (tN id) blk)→aj P w1 I tN hp (a.eval x) (aW P A.aE ty sl x)→∃xs,(((∃a',a.eval x= .slice a' 0 0)∧xs=[])∨∃a' c news,Row P w1 I e (a.eval x) xs a' c news)∧
     xs.length*P.bytesOf e≤ba∧hp nb=none∧r=⟨.whole e nb,[(nb,.arr e xs false)]⟩:=by
    intro w1 tN h1 h2;obtain ⟨xs,nJ,l,h⟩:=Gk h1 ao h2 h;obtain ⟨ed,h⟩:=aD h;rw[gb] at ed;obtain ⟨hn,rfl⟩:=mR h;grind
   obtain ⟨c1,t,hu,c2⟩:=hP.sc f e kW;intro next Q tW
   unfold Oper.wp;have e2:(execOp a.eval ⟨dst,.call ⟨.value (.func f),#[x],argTypes⟩,ty,pos,after,guard⟩).run P w= .ok (.enter f #[a.eval x]) w:=by
    have gW:a.eval (.func f)= .func (.func f) #[] #[]:=rfl;simpa[execOp,resolve,gW,Deferred.ofValue,invoke] using c1 #[a.eval x] w
   rw[e2,Oper.upon_enter];refine c2 _ w _ (fun GJ=> ?_) (fun b n c Ck=> ?_) ?_
   ·obtain ⟨xs,nJ,ed,hn,rfl⟩:=fin S.h.rel hx;have jJ:xs=[]:=by
     rcases nJ with ⟨_,h⟩|⟨a,c,news,hr⟩
     ·exact h
     ·have:=hr.val.symm.trans GJ;cases this
    subst jJ;obtain ⟨a1,a2⟩:=EM S e hn;exact tW _ w I _ a.defers a1 a2 (.dX (bK _ _ _) (bK _ _ _)) fun d hd=> .inl hd
   ·obtain ⟨m1,m2⟩:=ahb (w':=w.alloc (.cells #[] e)) S (fun b hb=>heap_alloc_old w _ b hb) (by simp) ⟨rfl,rfl⟩;obtain ⟨xs,nJ,ed,hn,rfl⟩:=fin m2.h.rel (hx.mono m1);obtain ⟨v,w',β',a1,a2,a3,a4⟩:=Q8 (ty:=t) (a0:=some ⟨w.heap.size,0,none⟩) m2 hu ao hn ed nJ;exact ⟨v,w',a1,tW v w' I β' a.defers (m1.trans a2) a3 a4 fun d hd=> .inl hd⟩
   ·obtain ⟨xs,nJ,ed,hn,rfl⟩:=fin S.h.rel hx;rcases nJ with ⟨⟨b,h⟩,_⟩|⟨b,c,news,hr⟩
    ·rw[h];cases b with
     | none=>grind
     | some b=>grind
    ·exact .inr ⟨_,_,_,hr.val⟩
theorem amc (hP:lf P A) (S:aC P w I β hp B M w0) {a:Act} {dst:Option Tmp} {ty T0:TypeId} {pos:String} {after:Array Edge} {guard:Option (Nat×Bool)} {f:FuncId}
  {args:Array Operand} {argTypes:Array TypeId} {xs:List V} {r:R} {rd:List Nat} (xC:A.ext f=some T0) (hz:P.cellsOf T0=0) (k1:(args.map a.eval).toList.length=xs.length)
  (k2: ∀(j:Nat) v x,(args.map a.eval).toList[j]? =some v→xs[j]? =some x→aj P w I β hp v x) (h:(Pf xs).run C hp=some (r,rd)):CE P A (Oper.mk dst (.call (Go.Call.mk (.value (.func f)) args argTypes)) ty pos after guard) a w I β hp B M w0 r:=by
 unfold Pf at h;split at h
 ·rename_i s c;obtain rfl:=aN h;generalize hv:args.map a.eval=vs at*
  obtain ⟨vs⟩:=vs
  match vs,k1,k2 with
  | [u,v],_,k2=>
   obtain ⟨s',rfl,hs⟩:=(k2 0 u _ rfl rfl).oG;obtain rfl:=(k2 1 v _ rfl rfl).fU;have q:=hP.RQ f T0 xC hz s' c w;rw[hs] at q;refine sx.step ⟨.int .i64 (Lib.indexByte s c.toNat.toUInt8),w,I,β,.inl ?_,Le.refl w I β hp,S,.int⟩;have gW:a.eval (.func f)= .func (.func f) #[] #[]:=rfl;simpa[execOp,resolve,gW,Deferred.ofValue,invoke,hv] using q
 ·cases h
theorem amd (hP:lf P A) (S:aC P w I β hp B M w0) (hg:jW P A.aE w I) {a:Act} {sl:Nat→V} (hs:n8 P w I β hp a sl) {dst:Option Tmp} {ty T0:TypeId} {pos:String} {after:Array Edge} {guard:Option (Nat×Bool)} {f:FuncId}
  {args:Array Operand} {argTypes:Array TypeId} {r:R} {rd:List Nat} (xC:A.ext f=some T0)
  (h:((match args.toList with
   | [x]=>
    match aW P A.aE ty sl x with
    | .ptr id i c=>Rd.get id fun
     | some (.var T cs)=> .aB (Nat.beq T T0&&(tq P T&&(Nat.beq cs.length (P.cellsOf T)&&(Nat.beq i 0&&Nat.beq c 0)))) (.ret ⟨.bf [],[(id,.var T (.undef::cs.tail))]⟩)
     | _=> .fail
    | _=> .fail
   | _=> .fail):Rd R).run C hp=some (r,rd)):CE P A (Oper.mk dst (.call (Go.Call.mk (.value (.func f)) args argTypes)) ty pos after guard) a w I β hp B M w0 r:=by
 cases ha:args.toList with
 | nil=>rw[ha] at h;cases h
 | cons x l=>
  rw[ha] at h;cases l with
  | cons _ _=>cases h
  | nil=>
   simp only at h;have e1:args= #[x]:=by grind
   subst e1;have hx:=hs.ev hg ty x;cases jg:aW P A.aE ty sl x<;>rw[jg] at h hx<;>simp only at h<;>first|(cases h;done)|skip
   rename_i id i c;obtain ⟨l,h1⟩:=run_get h;cases ae:hp id with
   | none=>rw[ae] at h1;cases h1
   | some blk=>
    rw[ae] at h1;cases blk<;>simp only at h1<;>first|(cases h1;done)|skip
    rename_i T cs;obtain ⟨h2,h3⟩:=aD h1;simp only[aK,aM] at h2;obtain ⟨rfl,cS,Ze,rfl,rfl⟩:=h2;obtain rfl:=aN h3;obtain ⟨b,hb,he⟩:=hx.je ae (by simp);have hr:=S.h.rel id _ ae;rw[hb] at hr;cases hr with
    | @var _ b' Ca _ au hh bd hI jJ iQ=>
     cases au;have Cq:a.eval x= .pointer (some ⟨b,0,none⟩):=by grind
     obtain ⟨q1,q2⟩:=hP.ext f T xC b Ca w hh (bd.trans Ze) (iQ cS);have h0:0<Ca.size:=by
      rcases iQ cS with k|k<;>exact (wF.1 k).1
     have sy:(V.undef::cs.tail).length=cs.length:=by
      grind
     have rel: ∀(C':Array Value),(∀j,0<j→C'[j]? =Ca[j]?)→∀(j:Nat) v y,C'[j]? =some v→(V.undef::cs.tail)[j]? =some y→aj P w I β hp v y:=by
      intro C' Lq j v y hj hy;cases j with
      | zero=>simp at hy;subst hy;exact .undef
      | succ j=>
       grind
     have fin: ∀w' C',(∀b',b'≠b→w'.heap[b']? =w.heap[b']?)→w'.heap[b]? =some (.cells C' T (0,0))→C'.size=Ca.size→w.heap.size≤w'.heap.size→w'.os=w.os∧w'.output=w.output→
       (∀j,0<j→C'[j]? =Ca[j]?)→(C'[0]? =some (.pointer none)∨C'[0]? =some (.pointer (some ⟨b,0,none⟩)))→
       Le P w I β hp w' I β (an hp id (some (.var T (V.undef::cs.tail))))∧aC P w' I β (an hp id (some (.var T (V.undef::cs.tail)))) B M w0:=by
      intro w' C' k1 k2 k3 k4 k5 k6 k7;exact BA (w':=w') (blk':= .var T (V.undef::cs.tail)) S ae (by simp) rfl hb hI (by simp) k1 (by rw[lD k2,lD hh,k3]) k4 k5 fun hle=>
       .var rfl k2 (by omega) hI (fun j v y hj hy=>(rel C' k6 j v y hj hy).mono hle) fun _=>k7
     intro next Q hn
     unfold Oper.wp;have e2:(execOp a.eval ⟨dst,.call ⟨.value (.func f),#[x],argTypes⟩,ty,pos,after,guard⟩).run P w= .ok (.enter f #[.pointer (some ⟨b,0,none⟩)]) w:=by
      have gW:a.eval (.func f)= .func (.func f) #[] #[]:=rfl;simpa[execOp,resolve,gW,Deferred.ofValue,invoke,Cq] using q1
     rw[e2,Oper.upon_enter];refine q2.mono fun e w' GI=> ?_;obtain ⟨rfl,hw⟩:=GI;have aaG:Le P w I β hp w' I β (an hp id (some (.var T (V.undef::cs.tail))))∧aC P w' I β (an hp id (some (.var T (V.undef::cs.tail)))) B M w0:=by
      rcases hw with rfl|rfl
      ·exact fin w' Ca (fun _ _=>rfl) hh rfl (az _) ⟨rfl,rfl⟩ (fun _ _=>rfl) (iQ cS)
      ·refine fin (w.setCell ⟨b,0,none⟩ (.pointer (some ⟨b,0,none⟩))) (Ca.setIfInBounds 0 (.pointer (some ⟨b,0,none⟩))) (fun b' bq=> ?_) ?_ (by simp) (by simp_all) ⟨rfl,rfl⟩ (fun j hj=> ?_) (.inr ?_)
       ·simp only[World.setCell,Jr];grind
       ·simp[World.setCell,Jr,hh]
       all_goals grind
     exact hn (.tuple #[]) w' I β a.defers aaG.1 aaG.2 (.bf rfl fun j v y hj _=>by simp at hj) fun d hd=> .inl hd
theorem ame (hC:oO P A C) (hP:lf P A) (S:aC P w I β hp B M w0) (hg:jW P A.aE w I) {a:Act} {sl:Nat→V} (hs:n8 P w I β hp a sl) {ix nb:Nat} {o:Oper} {r:R} {rd:List Nat}
  (h:(jk P A sl ix nb o).run C hp=some (r,rd)):CE P A o a w I β hp B M w0 r:=by
 cases hc:RA o.op with
 | false=>exact (alJ S hg hs hc h).step
 | true=>
  obtain ⟨dst,op,ty,pos,after,guard⟩:=o;cases op<;>simp only[RA] at hc<;>first|(cases hc;done)|skip
  case defer c=>
   obtain ⟨callee,args,argTypes⟩:=c;cases callee with
   | invoke r m=>simp only[jk] at h;cases h
   | builtin b=>simp only[jk] at h;cases h
   | value f=>
   cases f with
   | tmp t=>
    simp only[jk] at h;cases cS:sl t<;>rw[cS] at h<;>simp only at h<;>first|(cases h;done)|skip
    rename_i f xs ys;obtain ⟨h1,h2⟩:=aD h;obtain rfl:=aN h2;have hv:=hs t;rw[cS] at hv;generalize zj:a.tmps.getD t undef=vt at hv;cases hv with
    | @fn _ fs cs _ _ q1 q2 q3 q4=>
     intro next Q hn
     unfold Oper.wp;have gW:a.eval (.tmp t)= .func (.func f) fs cs:=zj;have e1:(execOp a.eval ⟨dst,.defer ⟨.value (.tmp t),args,argTypes⟩,ty,pos,after,guard⟩).run P w= .ok (.defer {target:= .fn (.func f) cs,args:=fs++args.map a.eval}) w:=by
      simp[execOp,resolve,gW,Deferred.ofValue]
     rw[e1,Oper.upon_defer];exact hn undef w I β _ (Le.refl w I β hp) S .undef fun d hd=>by
      rcases fj.1 hd with rfl|hd
      ·exact .inr ⟨f,cs,rfl,h1⟩
      grind
   | func f=>simp only[jk] at h;cases h
   | const _=>simp only[jk] at h;cases h
   | global _=>simp only[jk] at h;cases h
  rename_i c;obtain ⟨callee,args,argTypes⟩:=c;cases callee with
  | invoke r m=>cases hc
  | builtin b=>cases hc
  | value f=>
   cases f with
   | func f=>
    simp only[jk] at h;cases xC:A.ext f with
    | some T0=>
     rw[xC] at h;simp only at h;cases hz:Nat.beq (P.cellsOf T0) 0 with
     | true=>
      rw[hz] at h;simp only[cond_true] at h;rw[aM] at hz;obtain ⟨h1,h2⟩:=aD h;rw[aM] at h1;obtain ⟨k1,k2⟩:=hs.args hg h1;exact amc hP S xC hz k1 k2 h2
     | false=>
     rw[hz] at h;simp only[cond_false] at h;exact amd hP S hg hs xC h
    | none=>
    rw[xC] at h;simp only at h;cases kW:A.sc f with
    | some e0=>
     rw[kW] at h;simp only at h;exact amb hP S hg hs kW h
    | none=>
    rw[kW] at h;simp only at h;obtain ⟨h1,h2⟩:=aD h;rw[aM] at h1;obtain ⟨k1,k2⟩:=hs.args hg h1;refine aaF hC hP S hg k1 k2 h2 ?_;have e1:(args.map a.eval).toList.toArray=args.map a.eval:=Array.toArray_toList;rw[e1];simp[execOp,resolve,Act.eval,Deferred.ofValue,invoke]
   | tmp t=>
    simp only[jk] at h;cases cS:sl t<;>rw[cS] at h<;>simp only at h<;>first|(cases h;done)|skip
    rename_i f xs ys;obtain ⟨h1,h2⟩:=aD h;rw[aM] at h1;obtain ⟨k1,k2⟩:=hs.args hg h1;have hv:=hs t;rw[cS] at hv;generalize zj:a.tmps.getD t undef=vt at hv;cases hv with
    | @fn _ fs cs _ _ q1 q2 q3 q4=>
     have l1:fs.toList.length=xs.length:=by omega
     have l3:cs.toList.length=ys.length:=by omega
     have r1: ∀(j:Nat) v x,fs.toList[j]? =some v→xs[j]? =some x→aj P w I β hp v x:=fun j v x hj hx=>q2 j v x (by grind) hx;have r3: ∀(j:Nat) v x,cs.toList[j]? =some v→ys[j]? =some x→aj P w I β hp v x:=fun j v x hj hx=>q4 j v x (by grind) hx;refine aaF hC hP S hg (vals:=fs.toList++(args.map a.eval).toList++cs.toList) (args:=xs++((args.toList.zip argTypes.toList).map fun p=>aW P A.aE p.2 sl p.1)++ys) (by grind) ?_ h2 ?_
     ·grind
     ·have e1:(fs.toList++(args.map a.eval).toList++cs.toList).toArray=fs++args.map a.eval++cs:=by
       grind
      rw[e1];have gW:a.eval (.tmp t)= .func (.func f) fs cs:=zj;simp[execOp,resolve,gW,Deferred.ofValue,invoke]
   | _=>cases hc
end
section
variable {P:Program} {A:dw} {w w':World} {I I' I2:Nat→Nat→Prop} {μ β β':Nat→Option Nat} {hp hp':Nat→Option ah} {C:af} {B:Nat} {M:Nat→Prop} {w0:Start}
structure iU (P:Program) (E:FuncId→Bool) (G:Nat→V) (w:World) (I:Nat→Nat→Prop) (β:Nat→Option Nat) (n:Nat) (a:Act) (st:St):Prop where
 sl:n8 P w I β st.hp a st.sl
 size:a.tmps.size=n
 defers: ∀d∈a.defers,GG E d
 aE:jW P G w I
theorem RU {E:FuncId→Bool} {G:Nat→V} {n:Nat} {a:Act} {st:St} {o:Oper} {v:Value} {x:V} {hp':Nat→Option ah} {ds:List Deferred} (h:iU P E G w I β n a st) (hle:Le P w I β st.hp w' I' β' hp') (hd:wU o n=true)
  (hv:aj P w' I' β' hp' v x) (oY: ∀d∈ds,d∈a.defers∨GG E d):iU P E G w' I' β' n ({a with defers:=ds}.put o.dst v) ⟨ly st.sl o.dst x,hp',st.nb⟩:=by
 have hdf: ∀d∈ds,GG E d:=fun d hd=>(oY d hd).elim (h.defers d) id;cases amf:o.dst with
 | none=>exact ⟨fun k=>(h.sl k).mono hle,h.size,hdf,h.aE.mono hle.ej hle.cQ⟩
 | some d=>
  have aR:d<a.tmps.size:=by
   unfold wU at hd;rw[amf] at hd;rw[h.size];simpa using hd
  refine ⟨fun k=> ?_,by simp[Act.put,h.size],hdf,h.aE.mono hle.ej hle.cQ⟩;simp only[Act.put,ly,an];cases hb:Nat.beq k d with
  | true=>
   rw[aM] at hb;subst hb;simpa[aR] using hv
  | false=>
   have bq:d≠k:=fun e=>by rw[e,nX] at hb;cases hb
   have:=(h.sl k).mono hle;simpa[Array.getElem?_setIfInBounds_ne bq] using this
theorem aaH {E:FuncId→Bool} {G:Nat→V} {n:Nat} {a:Act} {st:St} {d:Nat} {b:Bool} (h:iU P E G w I β n a st) (hd:st.sl d= .bool b):a.tmps[d]? =some (.bool b):=by
 have:=h.sl d;rw[hd] at this;have:=this.nn;cases ht:a.tmps[d]? with
 | none=>simp[ht] at this;cases this
 | some v=>simp[ht] at this;rw[this]
theorem amg {x:V} {b:Bool} (h:o7 x=some (some b)):x= .bool b:=by
 cases x with
 | bool c=>simp only[o7] at h;injection h with h;injection h with h;rw[h]
 | bf vs=>cases vs<;>simp[o7] at h
 | _=>simp[o7] at h
theorem amh {x:V} (h:o7 x=some none):x= .bf []:=by
 cases x with
 | bf vs=>cases vs with
  | nil=>rfl
  | cons _ _=>simp[o7] at h
 | bool c=>simp[o7] at h
 | _=>simp[o7] at h
theorem aj.ami {v:Value} (h:aj P w I β hp v (.bf [])):v= .tuple #[]:=by
 cases h with
 | @bf cs _ hs _=>
  have:cs= #[]:=by
   apply Array.eq_empty_of_size_eq_zero;simpa using hs
  rw[this]
theorem aj.aaI:aj P w I β hp Go.undef (.bf []):= .bf (by rfl) (fun j v x _ hx=>by simp at hx)
theorem aaJ (hC:oO P A C) (hP:lf P A) {ops:Array Oper} {n i nb:Nat} {o:Oper} (ho:ops[i]? =some o) {a:Act} {st st':St} {R W:List Nat} (S:aC P w I β st.hp B M w0) (hA:iU P A.idle A.aE w I β n a st)
  (h:kL P A C n ops i o nb st=some (st',R,W)) {K:Act→World→Prop} {Q:Exit→Act→World→Prop}
  (hK: ∀a' w' I' β',Le P w I β st.hp w' I' β' st'.hp→aC P w' I' β' st'.hp B M w0→iU P A.idle A.aE w' I' β' n a' st'→K a' w'):wpOp P ops Q i K a w:=by
 unfold kL at h;cases hd:wU o n with
 | false=>rw[hd] at h;cases h
 | true=>
  rw[hd] at h;simp only[cond_true] at h;have go: ∀{RW:St} {R W:List Nat},(((jk P A st.sl i (nb+64*i) o).run C st.hp).bind fun r=>some ((⟨ly st.sl o.dst r.1.v,cf st.hp r.1.upd,st.nb⟩:St),uZ r.2 r.1.upd,jC st.hp r.1.upd))=some (RW,R,W)→RW=st'→
    o.wp P a w K Q:=by
   intro RW R W h e;obtain ⟨⟨r,rd⟩,h1,h2⟩:=bind_some h;cases h2;subst e;exact ame hC hP S hA.aE hA.sl h1 K Q fun v w' I' β' ds k1 k2 k3 k4=>hK _ w' I' β' k1 k2 (RU hA k1 hd k3 k4)
  unfold wpOp;rw[ho];simp only;cases hg:o.guard with
  | none=>
   rw[hg] at h;simp only[Region.wanted,hg,o0];exact .inl (go h rfl)
  | some gw=>
   obtain ⟨g,want⟩:=gw;rw[hg] at h;simp only at h;cases pO:(ops[g]?).bind (·.dst) with
   | none=>rw[pO] at h;cases h
   | some d=>
    rw[pO] at h;simp only at h;cases qD:o7 (st.sl d) with
    | none=>rw[qD] at h;cases h
    | some ob=>
    rw[qD] at h;cases ob with
    | none=>
     have Ck:=amh qD;have hy:yielded ops a.tmps g=none:=by
      unfold yielded;rw[pO];have:=hA.sl d;rw[Ck] at this;have hu:=aj.ami this;simp only[Option.bind_some];cases ht:a.tmps[d]? with
      | none=>rfl
      | some v=>simp[ht] at hu;subst hu;rfl
     simp only[Region.wanted,hg,hy];injection h with h;injection h with h3 h4;subst h3;have h2:((none:Option Bool)==some want)=false:=rfl;simp only[h2,Bool.false_eq_true,qb];exact hK _ w I β (Le.refl w I β st.hp) S (RU (ds:=a.defers) hA (Le.refl w I β st.hp) hd aj.aaI fun d h=> .inl h)
    | some b=>
    simp only at h;have Ck:=amg qD;have hy:yielded ops a.tmps g=some b:=by
     unfold yielded;rw[pO];simp only[Option.bind_some,aaH hA Ck]
    simp only[Region.wanted,hg,hy];by_cases hb:b=want
    ·subst hb;simp only[beq_self_eq_true,cond_true] at h;simp only[beq_self_eq_true,o0];exact .inl (go h rfl)
    ·have h1:(b==want)=false:=by simp[hb]
     have h2:(some b==some want)=false:=by simp[hb]
     rw[h1] at h;simp only[cond_false] at h;injection h with h;injection h with h3 h4;subst h3;simp only[h2,Bool.false_eq_true,qb];exact hK _ w I β (Le.refl w I β st.hp) S (RU (ds:=a.defers) hA (Le.refl w I β st.hp) hd aj.aaI fun d h=> .inl h)
def zs (hp hp':Nat→Option ah) (c:Nat):Prop:=hp' c=hp c∧(KB≤c→jS (hp' (c-KB))=jS (hp (c-KB)))
theorem zs.symm {c:Nat} (h:zs hp hp' c):zs hp' hp c:=⟨h.1.symm,fun hc=>(h.2 hc).symm⟩
theorem xD {α:Type}: ∀{p:Rd α} {r:α} {rd:List Nat},p.run C hp=some (r,rd)→(∀id∈rd,zs hp hp' id)→p.run C hp'=some (r,rd)
 | .ret a,r,rd,h,_=>h
 | .fail,r,rd,h,_=>by cases h
 | .get id k,r,rd,h,he=>by
  obtain ⟨x,h1,h2⟩:=bind_some h;cases h2;have e1:hp' id=hp id:=(he id (by simp)).1;have:=xD (p:=k (hp id)) (r:=x.1) (rd:=x.2) h1 (fun i hi=>he i (by simp[hi]));simp only[Rd.run,e1,this,Option.bind_some]
 | .live id ok k,r,rd,h,he=>by
  simp only[Rd.run] at h⊢;cases hk:ok (jS (hp id)) with
  | false=>rw[hk] at h;cases h
  | true=>
   rw[hk] at h;obtain ⟨x,h1,h2⟩:=bind_some h;cases h2;have e1:jS (hp' id)=jS (hp id):=by
    have:=(he (id+KB) (by simp)).2 (Nat.le_add_left _ _);rwa [Nat.add_sub_cancel] at this
   have:=xD (p:=k) (r:=x.1) (rd:=x.2) h1 (fun i hi=>he i (by simp[hi]));rw[e1,hk,this];rfl
 | .opt o k,r,rd,h,he=>by
  obtain ⟨x,h1,h2⟩:=bind_some h;simp only[Rd.run,h1,Option.bind_some];exact xD h2 he
 | .aB b k,r,rd,h,he=>by
  obtain ⟨h1,h2⟩:=aD h;simp only[Rd.run,h1,cond_true];exact xD h2 he
 | .call key ds k,r,rd,h,he=>by
  obtain ⟨x,h1,h2⟩:=bind_some h;simp only[Rd.run,h1,Option.bind_some];exact xD h2 he
 | .alt true x y,r,rd,h,he=>xD (p:=x) h he
 | .alt false x y,r,rd,h,he=>xD (p:=y) h he
theorem amj {G:Nat→V} {sl sl':Nat→V} {t:TypeId} {x:Operand} (h: ∀k,x= .tmp k→sl k=sl' k):aW P G t sl x=aW P G t sl' x:=by
 cases x with
 | tmp k=>exact h k rfl
 | _=>rfl
theorem amk {sl sl':Nat→V} {ix nb:Nat} {o:Oper} (h: ∀x∈o.op.operands,∀k,x= .tmp k→sl k=sl' k):jk P A sl ix nb o=jk P A sl' ix nb o:=by
 have gW: ∀t x,x∈o.op.operands→aW P A.aE t sl x=aW P A.aE t sl' x:=fun t x hx=>amj (h x hx);obtain ⟨dst,op,ty,pos,after,guard⟩:=o;have aaK: ∀(t:TypeId) (ps:Array (Nat×Operand)),(∀x∈ps.map (·.2),aW P A.aE t sl x=aW P A.aE t sl' x)→
   (ps.toList.map fun p=>(p.1,aW P A.aE t sl p.2))=ps.toList.map fun p=>(p.1,aW P A.aE t sl' p.2):=fun t ps hp=>
  oB fun p hm=>by rw[hp p.2 (Array.mem_map.2 ⟨p,tn.1 hm,rfl⟩)]
 have aml: ∀(t:TypeId) (ps:Array (Nat×Operand)),(∀x∈ps.map (·.2),aW P A.aE t sl x=aW P A.aE t sl' x)→
   (ps.toList.map fun p=>(aW P A.aE t sl p.2).cells)=ps.toList.map fun p=>(aW P A.aE t sl' p.2).cells:=fun t ps hp=>
  oB fun p hm=>by rw[hp p.2 (Array.mem_map.2 ⟨p,tn.1 hm,rfl⟩)]
 cases op<;>simp only[Op.operands] at gW<;>simp only[jk]
 case pick c x y=>rw[gW ty c (by simp),gW ty x (by simp),gW ty y (by simp)]
 case build t ps=>rw[aaK ty ps fun x hx=>gW ty x (by simpa using hx),aml ty ps fun x hx=>gW ty x (by simpa using hx)]
 case buildSlice t len ps=>
  split
  ·rename_i e _;rw[aaK e ps fun x hx=>gW e x (by simpa using hx)]
  ·rfl
 case slice t x lo hi mx=>
  cases mx with
  | some m=>
   have e1:lo.map (aW P A.aE 0 sl)=lo.map (aW P A.aE 0 sl'):=by
    cases lo with
    | none=>rfl
    | some l=>simp only[Option.map_some,gW 0 l (by simp)]
   have e2:hi.map (aW P A.aE 0 sl)=hi.map (aW P A.aE 0 sl'):=by
    cases hi with
    | none=>rfl
    | some l=>simp only[Option.map_some,gW 0 l (by simp)]
   have e3:=gW 0 m (by simp);simp only[gW ty x (by simp),e1,e2,e3]
  | none=>
   have e1:lo.map (aW P A.aE 0 sl)=lo.map (aW P A.aE 0 sl'):=by
    cases lo with
    | none=>rfl
    | some l=>simp only[Option.map_some,gW 0 l (by simp)]
   have e2:hi.map (aW P A.aE 0 sl)=hi.map (aW P A.aE 0 sl'):=by
    cases hi with
    | none=>rfl
    | some l=>simp only[Option.map_some,gW 0 l (by simp)]
   simp only[gW ty x (by simp),e1,e2]
 case call c=>
  obtain ⟨callee,args,argTypes⟩:=c;have zt: ∀t x,x∈args→aW P A.aE t sl x=aW P A.aE t sl' x:=fun t x hx=>gW t x (by simp[Call.operands,hx]);have hl: ∀t (l:List Operand),(∀x∈l,x∈args)→l.map (aW P A.aE t sl)=l.map (aW P A.aE t sl'):=fun t l hl=>oB fun x hx=>zt t x (hl x hx);have hz:((args.toList.zip argTypes.toList).map fun p=>aW P A.aE p.2 sl p.1)=(args.toList.zip argTypes.toList).map fun p=>aW P A.aE p.2 sl' p.1:=
   oB fun p hp=>zt p.2 p.1 (tn.1 (List.of_mem_zip hp).1)
  cases callee with
  | invoke r m=>rfl
  | builtin b=>
   have dv: ∀x∈args.toList,∀t,aW P A.aE t sl x=aW P A.aE t sl' x:=fun x hx t=>zt t x (tn.1 hx);have uf: ∀t (l:List Operand),(∀x∈l,∀t,aW P A.aE t sl x=aW P A.aE t sl' x)→l.map (aW P A.aE t sl)=l.map (aW P A.aE t sl'):=fun t l h=>oB fun x hx=>h x hx t;cases b<;>first|rfl|skip
   case append=>
    dsimp only;generalize args.toList=al at dv
    match al,dv,argTypes.toList with
    | [s,x],dv,[t,u]=>simp only[dv s (by simp),dv x (by simp)]
    | [],_,_=>rfl
    | [_],_,_=>rfl
    | _::_::_::_,_,_=>rfl
    | [_,_],_,[]=>rfl
    | [_,_],_,[_]=>rfl
    | [_,_],_,_::_::_::_=>rfl
   case copy=>
    dsimp only;generalize args.toList=al at dv
    match al,dv,argTypes.toList with
    | [s,x],dv,[t,u]=>simp only[dv s (by simp),dv x (by simp)]
    | [],_,_=>rfl
    | [_],_,_=>rfl
    | _::_::_::_,_,_=>rfl
    | [_,_],_,[]=>rfl
    | [_,_],_,[_]=>rfl
    | [_,_],_,_::_::_::_=>rfl
   case len=>
    dsimp only;generalize args.toList=al at dv
    match al,dv,argTypes.toList with
    | [x],dv,[t]=>simp only[dv x (by simp)]
    | [],_,_=>rfl
    | _::_::_,_,_=>rfl
    | [_],_,[]=>rfl
    | [_],_,_::_::_=>rfl
   case clear=>
    dsimp only;generalize args.toList=al at dv
    match al,dv,argTypes.toList with
    | [x],dv,[t]=>simp only[dv x (by simp)]
    | [],_,_=>rfl
    | _::_::_,_,_=>rfl
    | [_],_,[]=>rfl
    | [_],_,_::_::_=>rfl
   case unsafeSliceData=>
    dsimp only;generalize args.toList=al at dv
    match al,dv with
    | [],_=>rfl
    | [x],dv=>simp only[dv x (by simp)]
    | _::_::_,_=>rfl
   case unsafeString=>
    dsimp only;generalize args.toList=al at dv
    match al,dv,argTypes.toList with
    | [s,x],dv,[t,u]=>simp only[dv s (by simp),dv x (by simp)]
    | [],_,_=>rfl
    | [_],_,_=>rfl
    | _::_::_::_,_,_=>rfl
    | [_,_],_,[]=>rfl
    | [_,_],_,[_]=>rfl
    | [_,_],_,_::_::_::_=>rfl
   case max=>
    dsimp only;generalize args.toList=al at dv
    match al,dv with
    | [],_=>rfl
    | x::l,dv=>simp only[dv x (by simp),uf ty l (fun y hy=>dv y (by simp[hy]))]
   case min=>
    dsimp only;generalize args.toList=al at dv
    match al,dv with
    | [],_=>rfl
    | x::l,dv=>simp only[dv x (by simp),uf ty l (fun y hy=>dv y (by simp[hy]))]
  | value f=>
   cases f<;>first|rfl|skip
   ·rename_i t;have ht:sl t=sl' t:=h (.tmp t) (by simp[Op.operands,Call.operands]) t rfl;simp only[hz,ht]
   ·simp only[hz];cases hx:args.toList with
    | nil=>rfl
    | cons x l=>
     cases l with
     | cons _ _=>rfl
     | nil=>simp only[zt ty x (tn.1 (by rw[hx];simp))]
 case defer c=>
  obtain ⟨callee,args,argTypes⟩:=c;cases callee with
  | invoke r m=>rfl
  | builtin b=>rfl
  | value f=>
   cases f<;>first|rfl|skip
   rename_i t;have ht:sl t=sl' t:=h (.tmp t) (by simp[Op.operands,Call.operands]) t rfl;simp only[ht]
 case makeFunc fn a b=>
  cases fn<;>first|rfl|skip
  have e1:a.toList.map (aW P A.aE ty sl)=a.toList.map (aW P A.aE ty sl'):=oB fun x hx=>gW ty x (by simp[tn.1 hx]);have e2:b.toList.map (aW P A.aE ty sl)=b.toList.map (aW P A.aE ty sl'):=oB fun x hx=>gW ty x (by simp[tn.1 hx]);dsimp only;rw[e1,e2]
 case makeMap t r=>cases r<;>rfl
 all_goals first
  | rfl
  | (simp[gW];done)
end
section
variable {P:Program} {A:dw} {w w':World} {I I' I2:Nat→Nat→Prop} {μ β β':Nat→Option Nat} {hp hp':Nat→Option ah} {C:af} {B:Nat} {M:Nat→Prop} {w0:Start}
theorem RX {q:Nat×ah} {upd:List (Nat×ah)} (h:q∈upd):q.1∈jC hp upd:=by
 unfold jC;rw[List.mem_flatMap];refine ⟨q,h,?_⟩;cases Nat.beq (jS (hp q.1)) (jS (some q.2))<;>simp
theorem amm {upd:List (Nat×ah)} (h: ∀q∈upd,jS (hp' q.1)=jS (hp q.1)):jC hp' upd=jC hp upd:=by
 unfold jC
 induction upd with
 | nil=>rfl
 | cons q l ih=>
  rw[A7,A7,ih fun x hx=>h x (ju _ hx),h q (by simp)]
theorem aaL {c:Nat}: ∀{upd:List (Nat×ah)},c∉jC hp upd→zs hp (cf hp upd) c:=fun {upd} h=>by
 refine ⟨CD fun q hq e=>h (e▸RX hq),fun hc=> ?_⟩
 induction upd with
 | nil=>rfl
 | cons q l ih=>
  have hl:c∉jC hp l:=fun hx=>h (by unfold jC at*;rw[A7];exact List.mem_append_right _ hx);have hq:jS (hp q.1)=jS (some q.2)∨c≠q.1+KB:=by
   cases hb:Nat.beq (jS (hp q.1)) (jS (some q.2)) with
   | true=>exact .inl (Ji hb)
   | false=>
    refine .inr fun e=>h ?_;unfold jC;rw[A7,hb,e];simp
  show jS (an (cf hp l) q.1 (some q.2) (c-KB))=_;simp only[an];cases hb:Nat.beq (c-KB) q.1 with
  | false=>exact ih hl
  | true=>
   have e:=Ji hb;rcases hq with hq|hq
   ·rw[cond_true,e];exact hq.symm
   ·exact absurd (by omega) hq
theorem aaM {n i nb:Nat} {ops:Array Oper} {o:Oper} {st st':St} {R W:List Nat} (h:kL P A C n ops i o nb st=some (st',R,W)):
  ∃x upd,st'=⟨ly st.sl o.dst x,cf st.hp upd,st.nb⟩∧W=jC st.hp upd∧∀gn:St,(∀d∈o.looksAt ops,gn.sl d=st.sl d)→(∀id∈R,zs st.hp gn.hp id)→
   kL P A C n ops i o nb gn=some (⟨ly gn.sl o.dst x,cf gn.hp upd,gn.nb⟩,R,W)∧W=jC gn.hp upd:=by
 unfold kL at h;cases hd:wU o n with
 | false=>rw[hd] at h;cases h
 | true=>
  rw[hd] at h;simp only[cond_true] at h;have go:(((jk P A st.sl i (nb+64*i) o).run C st.hp).bind fun r=>some ((⟨ly st.sl o.dst r.1.v,cf st.hp r.1.upd,st.nb⟩:St),uZ r.2 r.1.upd,jC st.hp r.1.upd))=some (st',R,W)→
    ∃x upd,st'=⟨ly st.sl o.dst x,cf st.hp upd,st.nb⟩∧W=jC st.hp upd∧∀gn:St,(∀d∈o.looksAt ops,gn.sl d=st.sl d)→(∀id∈R,zs st.hp gn.hp id)→
     (((jk P A gn.sl i (nb+64*i) o).run C gn.hp).bind fun r=>some ((⟨ly gn.sl o.dst r.1.v,cf gn.hp r.1.upd,gn.nb⟩:St),uZ r.2 r.1.upd,jC gn.hp r.1.upd))=some (⟨ly gn.sl o.dst x,cf gn.hp upd,gn.nb⟩,R,W)∧W=jC gn.hp upd:=by
   intro h;obtain ⟨⟨r,rd⟩,h1,h2⟩:=bind_some h;cases h2;refine ⟨r.v,r.upd,rfl,rfl,fun gn hs hh=> ?_⟩;have hw:jC gn.hp r.upd=jC st.hp r.upd:=amm fun q hq=>by
    have:=(hh (q.1+KB) (List.mem_append_right _ (iB.2 ⟨q,hq,rfl⟩))).2 (Nat.le_add_left _ _);rwa [Nat.add_sub_cancel] at this
   rw[amk (sl':=st.sl) fun x hx k hk=> ?_,xD h1 fun c hc=>hh c (List.mem_append_left _ hc)]
   ·refine ⟨?_,hw.symm⟩;rw[Option.bind_some,hw]
   ·subst hk;exact hs k (List.mem_append_left _ (List.mem_filterMap.2 ⟨.tmp k,by simpa using hx,rfl⟩))
  cases hg:o.guard with
  | none=>
   rw[hg] at h;obtain ⟨x,upd,e1,e2,e3⟩:=go h;refine ⟨x,upd,e1,e2,fun gn hs hh=> ?_⟩;unfold kL;simp only[hd,cond_true,hg];exact e3 gn hs hh
  | some gw=>
   obtain ⟨g,want⟩:=gw;rw[hg] at h;simp only at h;cases pO:(ops[g]?).bind (·.dst) with
   | none=>rw[pO] at h;cases h
   | some d=>
    rw[pO] at h;simp only at h;have RY:d∈o.looksAt ops:=List.mem_append_right _ (by rw[hg];simp[pO]);cases qD:o7 (st.sl d) with
    | none=>rw[qD] at h;cases h
    | some ob=>
    rw[qD] at h;cases ob with
    | none=>
     injection h with h;injection h with h3 h4;injection h4 with h5 h6;subst h5;subst h6;refine ⟨.bf [],[],h3.symm,rfl,fun gn hs hh=> ?_⟩;unfold kL;simp only[hd,cond_true,hg,pO,hs d RY,qD];exact ⟨rfl,rfl⟩
    | some b=>
    simp only at h;cases hb:b==want with
    | true=>
     rw[hb] at h;obtain ⟨x,upd,e1,e2,e3⟩:=go h;refine ⟨x,upd,e1,e2,fun gn hs hh=> ?_⟩;unfold kL;simp only[hd,cond_true,hg,pO,hs d RY,qD,hb];exact e3 gn hs hh
    | false=>
     rw[hb] at h;simp only[cond_false] at h;injection h with h;injection h with h3 h4;injection h4 with h5 h6;subst h5;subst h6;refine ⟨.bf [],[],h3.symm,rfl,fun gn hs hh=> ?_⟩;unfold kL;simp only[hd,cond_true,hg,pO,hs d RY,qD,hb,cond_false];exact ⟨rfl,rfl⟩
theorem aaN {sl:Nat→V} {d:Option Nat} {x:V} {k:Nat} (h:d≠some k):ly sl d x k=sl k:=by
 cases d with
 | none=>rfl
 | some d=>exact cG _ _ fun e=>h (by rw[e])
theorem amn {hp:Nat→Option ah} {a b:List (Nat×ah)} (h: ∀q∈a,∀q'∈b,q.1≠q'.1):cf (cf hp a) b=cf (cf hp b) a:=by
 funext id;by_cases ha: ∃q∈a,q.1=id
 ·have hb: ∀q∈b,q.1≠id:=by
   obtain ⟨q,hq,rfl⟩:=ha;exact fun q' dD e=>h q hq q' dD e.symm
  rw[CD hb];obtain ⟨q,hq,rfl⟩:=ha;have same: ∀(bP gh:Nat→Option ah) (l:List (Nat×ah)) (q:Nat×ah),q∈l→cf bP l q.1=cf gh l q.1:=by
   intro bP gh l
   induction l with
   | nil=>intro q hq;simp at hq
   | cons p l ih=>
    intro q hq;simp only[cf,an];cases hb:Nat.beq q.1 p.1 with
    | true=>rfl
    | false=>
     simp only[cond_false];refine ih q ((fj.1 hq).resolve_left fun e=> ?_);rw[e,nX] at hb;cases hb
  exact same _ _ a q hq
 ·rw[CD (hp:=cf hp b) (l:=a) fun q hq e=>ha ⟨q,hq,e⟩];have same: ∀(bP gh:Nat→Option ah) (l:List (Nat×ah)),bP id=gh id→cf bP l id=cf gh l id:=by
   intro bP gh l he
   induction l with
   | nil=>exact he
   | cons p l ih=>
    simp only[cf,an];cases hb:Nat.beq id p.1 with
    | true=>rfl
    | false=>exact ih
  exact same _ _ b (CD fun q hq e=>ha ⟨q,hq,e⟩)
structure aaO (ops:Array Oper) (o1 o2:Oper) (R1 W1 R2 W2:List Nat):Prop where
 apart:Oper.apart ops o1 o2=true
 w: ∀id∈W1,id∉R2∧id∉W2
 r: ∀id∈R1,id∉W2
theorem amo {n i j nb:Nat} {ops:Array Oper} {o1 o2:Oper} {st kz gn:St} {R1 W1 R2 W2:List Nat} (h1:kL P A C n ops i o1 nb st=some (kz,R1,W1)) (h2:kL P A C n ops j o2 nb kz=some (gn,R2,W2))
  (hi:aaO ops o1 o2 R1 W1 R2 W2): ∃L7,kL P A C n ops j o2 nb st=some (L7,R2,W2)∧kL P A C n ops i o1 nb L7=some (gn,R1,W1):=by
 obtain ⟨x1,u1,e1,f1,g1⟩:=aaM h1;obtain ⟨x2,u2,e2,f2,g2⟩:=aaM h2;obtain ⟨a1,a2,a3⟩:=Oper.apart_spec hi.apart;subst e1;have k2:=g2 st (fun d hd=>by simp only;rw[aaN fun e=>a1 d e hd]) fun c hc=>(aaL fun hw=>(hi.w c (by rw[f1];exact hw)).1 hc).symm;refine ⟨_,k2.1,?_⟩;rw[(g1 _ (fun d hd=> ?_) (fun c hd=> ?_)).1,e2]
 ·congr 3
  ·funext k;cases hd1:o1.dst with
   | none=>rfl
   | some d1=>
    cases By:o2.dst with
    | none=>rfl
    | some d2=>
     have bq:d2≠d1:=fun e=>a2 d1 hd1 (by rw[By,e]);simp only[ly,an];cases BM:Nat.beq k d1<;>cases CG:Nat.beq k d2<;>simp only[cond_true,cond_false];rw[aM] at BM CG;exact absurd (CG.symm.trans BM) bq
  ·exact (amn fun q hq q' dD e=>(hi.w q.1 (by rw[f1];exact RX hq)).2 (by rw[f2,e];exact RX dD)).symm
 ·simp only;rw[aaN fun e=>a3 d e hd]
 ·exact aaL fun hw=>hi.r c hd (by rw[k2.2];exact hw)
def CH (P:Program) (A:dw) (C:af) (n:Nat) (ops:Array Oper) (nb:Nat):List (Nat×Oper×List Nat×List Nat)→St→St→Prop
 | [],st,st'=>st=st'
 | (i,o,R,W)::l,st,st'=> ∃kz,kL P A C n ops i o nb st=some (kz,R,W)∧CH P A C n ops nb l kz st'
def zu (x:Nat×Oper×List Nat×List Nat):Nat×List Nat×List Nat:=(x.1,x.2.2.1,x.2.2.2)
theorem aaP {n nb:Nat} {ops:Array Oper}: ∀{l:List (Nat×Oper)} {st st':St} {log L8:Log},tx P A C n ops nb l st log=some (st',L8)→
  ∃g,g.map (fun x=>(x.1,x.2.1))=l∧L8=log++g.map zu∧CH P A C n ops nb g st st'
 | [],st,st',log,L8,h=>by
  cases h;exact ⟨[],rfl,by simp,rfl⟩
 | (i,o)::l,st,st',log,L8,h=>by
  obtain ⟨⟨kz,R,W⟩,h1,h2⟩:=bind_some h;obtain ⟨g,a,b,c⟩:=aaP h2;exact ⟨(i,o,R,W)::g,by simp[a],by simp[b,zu],kz,h1,c⟩
def aaQ (ops:Array Oper) (x y:Nat×Oper×List Nat×List Nat):Prop:=aaO ops x.2.1 y.2.1 x.2.2.1 x.2.2.2 y.2.2.1 y.2.2.2
theorem aaR {n nb:Nat} {ops:Array Oper} {y:Nat×Oper×List Nat×List Nat} {g2:List (Nat×Oper×List Nat×List Nat)}: ∀{g1:List (Nat×Oper×List Nat×List Nat)} {st st':St},
  CH P A C n ops nb (g1++y::g2) st st'→(∀x∈g1,aaQ ops x y)→∃kz,kL P A C n ops y.1 y.2.1 nb st=some (kz,y.2.2.1,y.2.2.2)∧CH P A C n ops nb (g1++g2) kz st'
 | [],st,st',h,_=>h
 | x::g1,st,st',h,hi=>by
  obtain ⟨kz,h1,h2⟩:=h;obtain ⟨gn,h3,h4⟩:=aaR h2 fun z hz=>hi z (ju _ hz);obtain ⟨L7,h5,h6⟩:=amo h1 h3 (hi x (by simp));exact ⟨L7,h5,gn,h6,h4⟩
theorem aaS (hC:oO P A C) (hP:lf P A) {n nb:Nat} {ops:Array Oper} {Q:Exit→Act→World→Prop}: ∀{g:List (Nat×Oper×List Nat×List Nat)} {st st':St} {a:Act} {w:World} {I:Nat→Nat→Prop} {β:Nat→Option Nat},
  CH P A C n ops nb g st st'→(∀x∈g,ops[x.1]? =some x.2.1)→aC P w I β st.hp B M w0→iU P A.idle A.aE w I β n a st→
  (∀a' w' I' β',Le P w I β st.hp w' I' β' st'.hp→aC P w' I' β' st'.hp B M w0→iU P A.idle A.aE w' I' β' n a' st'→Q .normal a' w')→wpOps P ops Q (g.map (·.1)) a w
 | [],st,st',a,w,I,β,h,_,S,hA,hQ=>by
  cases h;exact hQ a w I β (Le.refl w I β _) S hA
 | x::g,st,st',a,w,I,β,h,ho,S,hA,hQ=>by
  obtain ⟨kz,h1,h2⟩:=h;rw[lu,wpOps_cons];refine aaJ hC hP (ho x (by simp)) S hA h1 fun a' w' I' β' k1 k2 k3=> ?_;exact aaS hC hP h2 (fun y hy=>ho y (ju _ hy)) k2 k3 fun a2 w2 I2 cM m1 m2 m3=>hQ a2 w2 I2 cM (k1.trans m1) m2 m3
end
section
variable {P:Program} {A:dw} {w w':World} {I I' I2:Nat→Nat→Prop} {μ β β':Nat→Option Nat} {hp hp':Nat→Option ah} {C:af} {B:Nat} {M:Nat→Prop} {w0:Start}
inductive zw (ops:Array Oper):Nat→Nat→Prop
 | aaT {i x:Nat} {o:Oper} {e:Edge}:ops[i]? =some o→e∈o.after→Region.binds .any e=true→e.on=x→zw ops i x
 | trans {i x:Nat} {o:Oper} {e:Edge}:ops[i]? =some o→e∈o.after→Region.binds .any e=true→zw ops e.on x→zw ops i x
theorem aaU {acc:Array Nat} {x:Nat}: ∀{l:List Edge} {s:Nat},(l.foldl (fun s e=>if Region.binds .any e then s|||2^e.on|||acc.getD e.on 0 else s) s).testBit x=true→
  s.testBit x=true∨∃e∈l,Region.binds .any e=true∧(e.on=x∨(acc.getD e.on 0).testBit x=true)
 | [],s,h=> .inl h
 | e::l,s,h=>by
  simp only[List.foldl_cons] at h;rcases aaU h with h1|⟨e',a,b⟩
  ·by_cases hb:Region.binds .any e=true
   ·rw[aA hb,Nat.testBit_or,Nat.testBit_or,D2,D2] at h1;rcases h1 with (h1|h1)|h1
    ·exact .inl h1
    ·rw[Nat.testBit_two_pow] at h1;exact .inr ⟨e,by simp,hb,.inl (by simpa using h1)⟩
    ·exact .inr ⟨e,by simp,hb,.inr h1⟩
   ·rw[aw hb] at h1;exact .inl h1
  ·exact .inr ⟨e',ju _ a,b⟩
theorem aaV {ops:Array Oper} {x:Nat}: ∀{l:List Oper} {acc:Array Nat},(∀j o,l[j]? =some o→ops[acc.size+j]? =some o)→(∀j,(acc.getD j 0).testBit x=true→zw ops j x)→
  ∀j,((l.foldl (fun acc o=>acc.push (o.after.foldl (fun s e=>if Region.binds .any e then s|||2^e.on|||acc.getD e.on 0 else s) 0)) acc).getD j 0).testBit x=true→zw ops j x
 | [],acc,_,L9,j,h=>L9 j h
 | o::l,acc,hl,L9,j,h=>by
  simp only[List.foldl_cons] at h;refine aaV (l:=l) ?_ ?_ j h
  ·intro j o' hj;have:=hl (j+1) o' (by simpa using hj);rw[Array.size_push];rwa [show acc.size+1+j=acc.size+(j+1) by omega]
  ·intro k hk;simp only[AY,Array.getElem?_push] at hk;by_cases RZ:k=acc.size
   ·rw[aA RZ] at hk;simp only[Option.getD_some] at hk;rw[←Jn] at hk;have ho:=hl 0 o rfl;rw[Nat.add_zero] at ho;rw[RZ];have CG:(o.after.toList.foldl (fun s e=>if Region.binds .any e then s|||2^e.on|||acc.getD e.on 0 else s) 0).testBit x=true:=by simpa[AY] using hk
    rcases aaU CG with h0|⟨e,he,hb,h1⟩
    ·simp at h0
    ·rcases h1 with h1|h1
     ·exact .aaT ho (tn.1 he) hb h1
     ·exact .trans ho (tn.1 he) hb (L9 _ h1)
   ·rw[aw RZ] at hk;exact L9 k (by simpa[AY] using hk)
theorem amp {ops:Array Oper} {i x:Nat} (h:((Region.before ops).getD i 0).testBit x=true):zw ops i x:=by
 unfold Region.before at h;rw[←Jn] at h;refine aaV (l:=ops.toList) (acc:= #[]) (fun j o hj=>by simpa using hj) (fun j hj=>by simp at hj) i h
def aaW (ops:Array Oper) (listed:Array Bool):Prop:= ∀i o,ops[i]? =some o→listed.getD i false=true→∀e∈o.after,Region.binds .any e=true→listed.getD e.on false=true
theorem amq {ops:Array Oper} {listed:Array Bool} (hc:aaW ops listed) {i x:Nat} (h:zw ops i x) (hi: ∀o,ops[i]? =some o→∀e∈o.after,Region.binds .any e=true→listed.getD e.on false=true):listed.getD x false=true:=by
 induction h with
 | aaT ho he hb hx=>rw[←hx];exact hi _ ho _ he hb
 | trans ho he hb _ ih=>exact ih fun o' sk e' Cq au=>hc _ o' sk (hi _ ho _ he hb) e' Cq au
theorem aaX: ∀{l:List Oper} {k j:Nat} {o:Oper},Ev k l=true→l[j]? =some o→∀e∈o.after,Region.binds .any e=true→e.on<k+j
 | [],k,j,o,_,h=>by simp at h
 | o'::l,k,j,o,hk,h=>by
  simp only[Ev,aK] at hk;cases j with
  | zero=>
   simp at h;subst h;intro e he hb;have:=ig.1 hk.1 e (tn.2 he);simp[hb] at this;omega
  | succ j=>
   intro e he hb;have:=aaX hk.2 (j:=j) (by simpa using h) e he hb;omega
theorem aaY {ops:Array Oper} {yn:Array Nat}: ∀{l:Log},JR ops yn l=true→l.Pairwise fun x y=>Eu ops yn x y=true
 | [],_=> .nil
 | x::l,h=>by
  simp only[JR,aK] at h;exact .cons (fun y hy=>ig.1 h.1 y hy) (aaY h.2)
theorem aaZ {listed:Array Bool} {i:Nat} (h:listed.getD i true=false):i<listed.size∧listed.getD i false=false:=by
 rcases jR i listed.size with h'|h'
 ·refine ⟨h',?_⟩;simpa[h'] using h
 ·simp[Array.getElem?_eq_none h'] at h
theorem aa0 (hC:oO P A C) (hP:lf P A) {n nb:Nat} {ops:Array Oper} {Q:Exit→Act→World→Prop} (Ma:Ev 0 ops.toList=true):
  ∀(fuel:Nat) {g:List (Nat×Oper×List Nat×List Nat)} {listed:Array Bool} {st st':St} {a:Act} {w:World} {I:Nat→Nat→Prop} {β:Nat→Option Nat},
  g.length=fuel→CH P A C n ops nb g st st'→(∀x∈g,ops[x.1]? =some x.2.1)→(g.map (·.1)).Pairwise (· < ·)→(g.map zu).Pairwise (fun x y=>Eu ops (Region.before ops) x y=true)→
  listed.size=ops.size→(∀i,i<ops.size→(listed.getD i false=false↔i∈g.map (·.1)))→aaW ops listed→
  aC P w I β st.hp B M w0→iU P A.idle A.aE w I β n a st→
  (∀a' w' I' β',Le P w I β st.hp w' I' β' st'.hp→aC P w' I' β' st'.hp B M w0→iU P A.idle A.aE w' I' β' n a' st'→Q .normal a' w')→wpAny P .any ops Q fuel listed a w
 | 0,g,listed,st,st',a,w,I,β,hf,hr,ho,aR,Mb,bd,zx,kW,S,hA,hQ=>by
  obtain rfl:g=[]:=oZ hf;cases hr;refine ⟨?_,hQ a w I β (Le.refl w I β _) S hA⟩;rw[List.eq_nil_iff_forall_not_mem];intro i hi;obtain ⟨h0,_⟩:=mem_ready.1 hi;obtain ⟨h1,h2⟩:=aaZ h0;have:=(zx i (by omega)).1 h2;simp at this
 | fuel+1,g,listed,st,st',a,w,I,β,hf,hr,ho,aR,Mb,bd,zx,kW,S,hA,hQ=>by
  refine ⟨fun GJ=> ?_,fun i hi=> ?_⟩
  ·exfalso;cases g with
   | nil=>simp at hf
   | cons x g=>
    have hx:=ho x (by simp);have jJ:x.1<ops.size:=(wF.1 hx).1;have mM:x.1∈Region.ready .any ops listed:=by
     rw[mem_ready];have h0:=(zx x.1 jJ).2 (by simp);refine ⟨?_,x.2.1,hx,fun e he hb=> ?_⟩
     ·have hl:x.1<listed.size:=by omega
      simpa[hl] using h0
     ·have Rg:=aaX Ma (j:=x.1) (by simpa using hx) e he hb;rw[dL] at Rg;cases hle:listed.getD e.on false with
      | true=>rfl
      | false=>
       have hm:=(zx e.on (by omega)).1 hle;simp only[lu,fj] at hm;rw[lu,List.pairwise_cons] at aR;rcases hm with hm|hm
       ·omega
       ·have:=aR.1 _ hm;omega
    rw[GJ] at mM;cases mM
  ·obtain ⟨h0,oi,GK,hed⟩:=mem_ready.1 hi;obtain ⟨h1,h2⟩:=aaZ h0;have hig:=(zx i (by omega)).1 h2;obtain ⟨y,hy,Mc⟩:=iB.1 hig;obtain ⟨g1,g2,rfl⟩:=List.append_of_mem hy;subst Mc;have hyo:=ho y hy;rw[GK] at hyo;have aa1:oi=y.2.1:=dU hyo;have oo:((g1++y::g2).map (·.1)).Nodup:=aR.imp fun h=>Ea h;have amr: ∀x∈g1,aaQ ops x y:=by
    intro x hx;have hp:Eu ops (Region.before ops) (zu x) (zu y)=true:=by
     rw[tk,lu,List.pairwise_append] at Mb;exact Mb.2.2 _ (iB.2 ⟨x,hx,rfl⟩) _ (by simp)
    have hxo:=ho x (fb.2 (.inl hx));unfold Eu at hp;rw[D2] at hp;rcases hp with hp|hp
    ·have hl:=amq kW (amp hp) fun o sk e he hb=>by
      have:o=oi:=by
       have h3:ops[y.1]? =some o:=sk;rw[GK] at h3;exact (dU h3).symm
      subst this;exact hed e he hb
     have jJ:x.1<ops.size:=(wF.1 hxo).1;have:=(zx x.1 jJ).2 (iB.2 ⟨x,fb.2 (.inl hx),rfl⟩);rw[show (zu x).1=x.1 from rfl,this] at hl;cases hl
    ·simp only[zu,AY,hxo,GK,Option.getD_some,aK,nc] at hp;obtain ⟨q1,q2,q3⟩:=hp;refine ⟨aa1▸q1,fun id ae=> ?_,fun id ae=>LX q3 ae⟩;have:=LX q2 ae;rw[fb] at this;exact ⟨fun h=>this (.inl h),fun h=>this (.inr h)⟩
   obtain ⟨kz,kU,pL⟩:=aaR hr amr;rw[←aa1] at kU;refine aaJ hC hP GK S hA kU fun a' w' I' β' k1 k2 k3=> ?_;have lL:List.Sublist (g1++g2) (g1++y::g2):=List.Sublist.append_left (List.sublist_cons_self y g2) g1;have jm: ∀j,j≠y.1→(listed.setIfInBounds y.1 true).getD j false=listed.getD j false:=fun j hj=>getD_set_ne false (Ne.symm hj);refine aa0 hC hP Ma fuel (g:=g1++g2) (st':=st') ?_ pL (fun x hx=>ho x (lL.subset hx)) (aR.sublist (lL.map _)) (Mb.sublist (lL.map _)) (by simp[bd]) (fun j hj=> ?_) (fun j o R0 dr e he hb=> ?_) k2 k3 fun a2 w2 I2 cM m1 m2 m3=>hQ a2 w2 I2 cM (k1.trans m1) m2 m3
   ·simp at hf⊢;omega
   ·by_cases tO:j=y.1
    ·subst tO;have hl:y.1<listed.size:=by omega
     simp only[AY,Array.getElem?_setIfInBounds_self_of_lt hl,Option.getD_some];refine ⟨fun h=>(by cases h),fun h=> ?_⟩;exfalso;rw[tk,lu,Eb,List.nodup_cons] at oo;rw[tk,fb] at h;rcases h with h|h
     ·exact oo.2.2 _ h _ (by simp) rfl
     ·exact oo.2.1.1 h
    ·rw[jm j tO,zx j hj];simp only[tk,lu,fb,fj];constructor
     ·rintro (h|h|h)
      ·exact .inl h
      ·exact absurd h tO
      ·exact .inr h
     ·rintro (h|h)
      ·exact .inl h
      ·exact .inr (.inr h)
   ·by_cases tO:j=y.1
    ·subst tO;rw[GK] at R0;cases R0;exact getD_set_true (hed e he hb)
    ·rw[jm j tO] at dr;exact getD_set_true (kW j o R0 dr e he hb)
end
section
variable {P:Program} {A:dw} {w w':World} {I I' I2:Nat→Nat→Prop} {μ β β':Nat→Option Nat} {hp hp':Nat→Option ah} {C:af} {B:Nat} {M:Nat→Prop} {w0:Start}
theorem aa2: ∀{l:List Oper} {k j:Nat},(sf k l)[j]? =(l[j]?).map fun o=>(k+j,o)
 | [],k,j=>by simp[sf]
 | o::l,k,0=>by simp[sf]
 | o::l,k,j+1=>by
  simp only[sf,List.getElem?_cons_succ,aa2];congr 1;funext o;rw[show k+1+j=k+(j+1) by omega]
theorem aa3: ∀{l:List Oper} {k:Nat},(sf k l).map (·.1)=List.range' k l.length
 | [],k=>rfl
 | o::l,k=>by simp[sf,aa3,List.range'_succ]
theorem ams (hC:oO P A C) (hP:lf P A) (hm:P.follows .mixedOrders=true) {n id:Nat} {ops:Array Oper} {draw:Bool} {st st':St} {a:Act} {Q:Exit→Act→World→Prop}
  (h:Bq P A C n ops draw st=some st') (S:aC P w I β st.hp B M w0) (hA:iU P A.idle A.aE w I β n a st)
  (hQ: ∀a' w' I' β',Le P w I β st.hp w' I' β' st'.hp→aC P w' I' β' st'.hp B M w0→iU P A.idle A.aE w' I' β' n a' st'→Q .normal a' w'):(Code.region id ops draw).wp P Q a w:=by
 obtain ⟨⟨kz,log⟩,h1,h2⟩:=bind_some h;obtain ⟨g,g1,g2,g3⟩:=aaP h1;have Md:g.map (·.1)=List.range ops.size:=by
  have:g.map (·.1)=(g.map fun x=>(x.1,x.2.1)).map (·.1):=by simp
  rw[this,g1,aa3,List.range_eq_range'];simp
 have hop: ∀x∈g,ops[x.1]? =some x.2.1:=by
  intro x hx;have:(x.1,x.2.1)∈sf 0 ops.toList:=by rw[←g1];exact iB.2 ⟨x,hx,rfl⟩
  obtain ⟨j,hj⟩:=List.mem_iff_getElem?.1 this;rw[aa2] at hj;cases ho:ops.toList[j]? with
  | none=>rw[ho] at hj;cases hj
  | some o=>
   rw[ho] at hj;simp only[Option.map_some,dL,fi,nh] at hj;rw[←hj.1,←hj.2];simpa using ho
 cases draw with
 | false=>
  simp only[Bool.not_false,Bool.true_or,cond_true] at h2;cases h2;refine wp_region ?_;rw[←Md];exact aaS hC hP g3 hop S hA hQ
 | true=>
  simp only[Bool.not_true,Bool.false_or] at h2;cases hc:(Region.noSelect ops&&Ew ops log) with
  | false=>rw[hc] at h2;cases h2
  | true=>
   rw[hc] at h2;cases h2;simp only[aK,Ew] at hc;obtain ⟨hns,Ma,amt⟩:=hc;simp only[List.nil_append] at g2;refine wp_region_any hm ?_;have hlen:g.length=ops.size:=by
    have:=congrArg List.length Md;simpa using this
   refine aa0 hC hP Ma ops.size (g:=g) (st':=st') hlen g3 hop (by rw[Md];exact List.pairwise_lt_range) (by rw[←g2];exact aaY amt) (by simp) (fun i hi=> ?_) (fun i o ho hl=> ?_)
    (w:=w.drew) S.drew ⟨fun k=>(hA.sl k).mono (Le.drew w I β _),hA.size,hA.defers,hA.aE.mono (Le.drew (P:=P) w I β st.hp).ej (Le.drew (P:=P) w I β st.hp).cQ⟩ fun a' w' I' β' k1 k2 k3=>hQ a' w' I' β' ((Le.drew w I β _).trans k1) k2 k3
   ·rw[Md];simp[hi]
   ·have hi:=(wF.1 ho).1;simp[hi] at hl
end
section
variable {P:Program} {A:dw} {E:FuncId→Bool} {G:Nat→V} {w w':World} {I I' I2:Nat→Nat→Prop} {μ β β':Nat→Option Nat} {hp hp':Nat→Option ah} {C:af} {B:Nat} {M:Nat→Prop} {w0:Start}
theorem xE: ∀{l:List Nat} {hp:Nat→Option ah} {I:Nat→Nat→Prop},aC P w I β hp B M w0→∃I',Le P w I β hp w I' β (uY hp l)∧aC P w I' β (uY hp l) B M w0
 | [],hp,I,S=>⟨I,Le.refl w I β hp,S⟩
 | id::l,hp,I,S=>by
  simp only[uY];cases ae:hp id with
  | none=>exact xE S
  | some blk=>
   cases blk with
   | dead=>exact xE S
   | out _ _ _ _=>exact xE S
   | var _=>exact xE S
   | map _ _=>exact xE S
   | arr e es fz=>
    obtain ⟨h1,h2⟩:=Bw S (upd:=[(id,.arr e es true)]) (fun p hp=>by
     simp only[fL] at hp;subst hp;exact ⟨e,es,rfl,.inl ⟨fz,ae⟩⟩)
    obtain ⟨I',h3,h4⟩:=xE (l:=l) h2;exact ⟨I',h1.trans h3,h4⟩
   | nest e es vers=>
    obtain ⟨h1,h2⟩:=Bw S (upd:=[(id,.arr e es true)]) (fun p hp=>by
     simp only[fL] at hp;subst hp;exact ⟨e,es,rfl,.inr ⟨vers,ae⟩⟩)
    obtain ⟨I',h3,h4⟩:=xE (l:=l) h2;exact ⟨I',h1.trans h3,h4⟩
theorem aa4 {n:Nat} {a:Act} {st:St} (S:aC P w I β st.hp B M w0) (hA:iU P E G w I β n a st):
  ∃I',Le P w I β st.hp w I' β st.hp∧aC P w I' β st.hp B M w0∧iU P E G w I' β n a st∧tD P I' β st.hp:=by
 obtain ⟨I',h1,h2,h3⟩:=Xd S;exact ⟨I',h1,h2,⟨fun k=>(hA.sl k).mono h1,hA.size,hA.defers,hA.aE.mono h1.ej h1.cQ⟩,h3⟩
theorem amu {hp:Nat→Option ah} (S:aC P w I β hp B M w0) (hT:tD P I β hp) {v:Value} {x:V} (hv:aj P w I β hp v x):aj P w I β hp v (Et hp x):=by
 cases x with
 | whole e id=>
  simp only[Et];split
  ·rename_i e' es ae;cases he:Nat.beq e e' with
   | false=>exact hv
   | true=>
    rw[aM] at he;subst he;simp only[cond_true];cases hv with
    | eb h=>grind
    | dP h=>grind
    | eh h=>grind
    | fF h=>grind
    | dX h=>rw[ae] at h;cases h;exact .list (.any fun _=>rfl)
    | whole h hb bd bR hm=>
     rw[ae] at h;cases h;have hr:=S.h.rel id _ ae;cases hr with
     | ez au=>grind
     | arr hL ao au hh hs hf fO hx=>
      rw[hb] at au;cases au;have:=u7 (I':=I) (off:=0) (len:=es.length) (o:=0) hh hx (fG ao) (by omega) bR (fun _=>by simp) (fun _ _ h=>h) (hT _ _ _ _ ae hb);exact .list (by grind)
  ·exact hv
 | sub e id off len=>
  simp only[Et];split
  ·rename_i e' es ae;cases he:Nat.beq e e' with
   | false=>exact hv
   | true=>
    rw[aM] at he;subst he;simp only[cond_true];cases hv with
    | jF h=>grind
    | jb h=>rw[ae] at h;cases h;exact .list (by simpa using (kP.any (P:=P) fun _=>rfl))
    | sub h hb mK bR ho=>
     rw[ae] at h;cases h;have hr:=S.h.rel id _ ae;cases hr with
     | ez au=>grind
     | arr hL ao au hh hs hf fO hx=>
      rw[hb] at au;cases au;exact .list (u7 (I':=I) hh hx (fG ao) mK bR ho (fun _ _ h=>h) (hT _ _ _ _ ae hb))
  ·exact hv
 | _=>exact hv
theorem amv {n:Nat} {a:Act} {st:St} (S:aC P w I β st.hp B M w0) (hA:iU P E G w I β n a st) (p:Nat):
  ∃β',Le P w I β st.hp w I β' (wS st p).hp∧aC P w I β' (wS st p).hp B M w0∧iU P E G w I β' n a (wS st p):=by
 have same: ∃β',Le P w I β st.hp w I β' st.hp∧aC P w I β' st.hp B M w0∧iU P E G w I β' n a st:=⟨β,Le.refl ..,S,hA⟩
 unfold wS;cases Nat.ble (102*KB) p with
 | true=>
  simp only[cond_true];split
  ·rename_i id hx;split
   ·rename_i T cs ae;split
    ·rename_i e hc;have hr:=S.h.rel id _ ae;obtain ⟨b,hb,_⟩: ∃b,β id=some b∧True:=by
      have hv:=hA.sl (p %KB);rw[hx] at hv;obtain ⟨b,hb,_⟩:=hv.je ae (by simp);exact ⟨b,hb,trivial⟩
     rw[hb] at hr;have aR:=(cC.1 hc).1;cases hr with
     | @var _ b' C _ au hh hs hI jJ iQ=>
      cases au;obtain ⟨h1,h2⟩:=BA (w':=w) (blk':= .var T (cs.set (p/KB-102) (.nl e []))) S ae (by simp) rfl hb hI (by simp) (fun _ _=>rfl) rfl (az _) ⟨rfl,rfl⟩ fun hle=> .var rfl hh (by simp;exact hs) hI (fun j v y hj hy=>by
       by_cases yC:p/KB-102=j
       ·subst yC;rw[qc aR] at hy;cases hy;have hv:=jJ _ v _ hj hc;cases hv;exact .nl .nil fun _=>rfl
       ·rw[wA yC] at hy;exact (jJ j v y hj hy).mono hle) iQ
      exact ⟨β,h1,h2,⟨fun k=>(hA.sl k).mono h1,hA.size,hA.defers,hA.aE⟩⟩
    ·exact same
   ·exact same
  ·exact same
 | false=>
 simp only[cond_false];cases Nat.ble (2*KB) p with
 | false=>exact same
 | true=>
  simp only[cond_true];split
  ·rename_i e hn hx;obtain ⟨h1,h2⟩:=Px S (vers:=[0,0,0]) e hn;refine ⟨_,h1,h2,⟨fun k=> ?_,hA.size,hA.defers,hA.aE⟩⟩;show aj P w I (an β st.nb none) (an st.hp st.nb (some (.nest e [] [0,0,0]))) _ (an st.sl (p %KB) (V.whole e st.nb) k);by_cases hk:k=p %KB
   ·subst hk;have hv:=hA.sl (p %KB);rw[hx] at hv;rw[bK];generalize a.tmps.getD (p %KB) _=v at hv⊢;cases hv;exact .eh (bK _ _ _) (bK _ _ _)
   ·rw[cG _ _ hk];exact (hA.sl k).mono h1
  ·rename_i cs hn hx;split
   ·rename_i e hc;obtain ⟨h1,h2⟩:=Px S (vers:=[0,0,0]) e hn;refine ⟨_,h1,h2,⟨fun k=> ?_,hA.size,hA.defers,hA.aE⟩⟩;show aj P w I (an β st.nb none) (an st.hp st.nb (some (.nest e [] [0,0,0]))) _ (an st.sl (p %KB) (V.agg (cs.set (p/KB-2) (.whole e st.nb))) k);by_cases hk:k=p %KB
    ·subst hk;have hv:=hA.sl (p %KB);rw[hx] at hv;rw[bK];generalize a.tmps.getD (p %KB) _=v at hv⊢;obtain ⟨vs,rfl,kU,pL⟩:=hv.np;refine .agg (by grind) fun j v x hv oI=> ?_;by_cases hj:p/KB-2=j
     ·subst hj;have aR:=(cC.1 hc).1;rw[qc aR] at oI;cases oI;have zh:=pL _ v _ hv hc;cases zh;exact .eh (vers:=[0,0,0]) (bK _ _ _) (bK _ _ _)
     ·rw[wA hj] at oI;exact (pL j v x hv oI).mono h1
    ·rw[cG _ _ hk];exact (hA.sl k).mono h1
   omega
  ·rename_i id hn hx;split
   ·rename_i T cs ae;split
    ·rename_i e hc;obtain ⟨h1,h2⟩:=Px S (vers:=[0,0,0]) e hn;have bq:id≠st.nb:=fun h=>by grind
     have qx:an st.hp st.nb (some (.nest e [] [0,0,0])) id=some (.var T cs):=by rw[cG _ _ bq];exact ae
     have hr:=h2.h.rel id _ qx;generalize ho:an β st.nb none id=o at hr;cases hr with
     | @var _ b Ca _ hb hh hs hI kZ iQ=>
     subst hb;obtain ⟨h3,h4⟩:=BA (w':=w) h2 (blk':= .var T (cs.set (p/KB-2) (.whole e st.nb))) qx (by simp) rfl ho hI (by simp) (fun _ _=>rfl) rfl (az _) ⟨rfl,rfl⟩
      (fun hle=> .var rfl hh (by grind) hI (fun j v x hv oI=>by
       by_cases hj:p/KB-2=j
       ·subst hj;have aR:=(cC.1 hc).1;rw[qc aR] at oI;cases oI;have zh:=kZ _ v _ hv hc;cases zh;exact .eh (vers:=[0,0,0]) (by rw[cG _ _ (Ne.symm bq)];exact bK _ _ _) (bK _ _ _)
       ·rw[wA hj] at oI;exact (kZ j v x hv oI).mono hle) iQ)
     exact ⟨_,h1.trans h3,h4,⟨fun k=>(hA.sl k).mono (h1.trans h3),hA.size,hA.defers,hA.aE⟩⟩
    omega
   omega
  omega
theorem aa5 {n:Nat} {a:Act}: ∀(l:List Nat) {st:St} {β:Nat→Option Nat},aC P w I β st.hp B M w0→iU P E G w I β n a st→
  ∃β',Le P w I β st.hp w I β' (l.foldl wS st).hp∧aC P w I β' (l.foldl wS st).hp B M w0∧iU P E G w I β' n a (l.foldl wS st)
 | [],st,β,S,hA=>⟨β,Le.refl ..,S,hA⟩
 | p::l,st,β,S,hA=>by
  obtain ⟨tN,h1,h2,h3⟩:=amv S hA p;obtain ⟨cM,h4,h5,h6⟩:=aa5 l h2 h3;exact ⟨cM,h1.trans h4,h5,h6⟩
theorem aa6 {n m:Nat} {pur:List Nat} {a:Act} {st:St} (S:aC P w I β st.hp B M w0) (hA:iU P E G w I β n a st):
  ∃I' β',Le P w I β st.hp w I' β' (freeze m pur st).hp∧aC P w I' β' (freeze m pur st).hp B M w0∧iU P E G w I' β' n a (freeze m pur st):=by
 obtain ⟨I1,h1,h2⟩:=xE (l:=(JQ st pur).filter fun id=>Nat.ble m id) S;obtain ⟨I',h3,h4,h5⟩:=Xd h2;have h1:=h1.trans h3;have hA2:iU P E G w I' β n a ⟨fun k=>bif iN pur (k+KB) then Et (uY st.hp ((JQ st pur).filter fun id=>Nat.ble m id)) (st.sl k) else st.sl k,uY st.hp ((JQ st pur).filter fun id=>Nat.ble m id),st.nb⟩:=by
  refine ⟨fun k=> ?_,hA.size,hA.defers,hA.aE.mono h1.ej h1.cQ⟩;have hv:=(hA.sl k).mono h1;cases hm:iN pur (k+KB) with
  | false=>grind
  | true=>simp only[hm,cond_true];exact amu h4 h5 hv
 obtain ⟨β',k1,k2,k3⟩:=aa5 pur h4 hA2;exact ⟨I',β',h1.trans k1,k2,k3⟩
structure CI (hp:Nat→Option ah) (β:Nat→Option Nat) (ord:List Nat) (hp':Nat→Option ah) (β':Nat→Option Nat):Prop where
 arr: ∀(j:Nat) id e es fz,ord[j]? =some id→hp id=some (.arr e es fz)→hp' j=some (.arr e es fz)
 var: ∀(j:Nat) id T cs,ord[j]? =some id→hp id=some (.var T cs)→∃lE,hp' j=some (.var T lE)
 dead: ∀(j:Nat) id,ord[j]? =some id→hp id=some .dead→hp' j=some .dead
 out: ∀(j:Nat) id e es vs i,ord[j]? =some id→hp id=some (.out e es vs i)→hp' j=some .dead
 place: ∀(j:Nat) id,ord[j]? =some id→β' j=β id
 nest: ∀(j:Nat) id e es vers,ord[j]? =some id→hp id=some (.nest e es vers)→hp' j=some (.nest e es (vers.map fun _=>0))
 map: ∀(j:Nat) id t es,ord[j]? =some id→hp id=some (.map t es)→hp' j=some (.map t es)
theorem oq: ∀{l:List Nat} {n i j:Nat},kj l n i=some j→∃k,j=i+k∧l[k]? =some n
 | [],n,i,j,h=>by cases h
 | a::l,n,i,j,h=>by
  simp only[kj] at h;cases hb:Nat.beq n a with
  | true=>
   simp_all
  | false=>
   rw[hb] at h;obtain ⟨k,h1,h2⟩:=oq h;exact ⟨k+1,by omega,by grind⟩
def oP (hp':Nat→Option ah) (β':Nat→Option Nat) (n:Nat) (bs:List ah):Prop:=
 ∀(k:Nat) b,bs[k]? =some b→hp' (n+k)=some b∧β' (n+k)=none
theorem R3: ∀(vers:List Nat) (k:Nat),bB (vers.map fun _=>0) k=0
 | [],_=>rfl
 | _::_,0=>rfl
 | _::vs,k+1=>R3 vs k
theorem aa7 {e:TypeId} {es:List V} {vers:List Nat} {path:Path} {ver:Nat} (hc:(Nat.blt 0 path.length&&(Nat.ble path.length vers.length&&Nat.beq (bB vers (path.length-1)) ver))=true)
  (h:(ah.nest e es vers).u4 path ver):False:=by
 simp only[aK,mZ,gb,aM] at hc;obtain ⟨h1,h2,h3⟩:=hc;rcases h with h|h|h
 all_goals grind
theorem aa8 (S:aC P w I β hp B M w0) (hT:tD P I β hp) {ord:List Nat} (hR:CI hp β ord hp' β') {v:Value} {x:V} (hv:aj P w I β hp v x):aj P w I β' hp' v (km hp ord x):=by
 cases hv with
 | undef=>exact .undef
 | int=>exact .int
 | bool=>exact .bool
 | str h=>exact .str h
 | list h=>exact .list h
 | nilS=>exact .nilS
 | nl h h0=>exact .nl h h0
 | agg=>exact .undef
 | bf=>exact .undef
 | eG=>exact .eG
 | fn=>exact .undef
 | pref a b c=>exact .pref a b c
 | @eb _ e id ae=>
  simp only[km];cases bP:kj ord id 0 with
  | none=>simp only[ae];exact .undef
  | some j=>
   obtain ⟨k,rfl,hk⟩:=oq bP;exact .eb (hR.dead _ id (by grind) ae)
 | @jF _ e id off len ae=>
  simp only[km];cases bP:kj ord id 0 with
  | none=>simp only[ae];exact .undef
  | some j=>
   obtain ⟨k,rfl,hk⟩:=oq bP;exact .jF (hR.dead _ id (by grind) ae)
 | @mH _ id i c ae=>
  simp only[km];cases bP:kj ord id 0 with
  | none=>exact .undef
  | some j=>
   obtain ⟨k,rfl,hk⟩:=oq bP;exact .mH (hR.dead _ id (by grind) ae)
 | @dX e id fz _ ae hb=>
  simp only[km];cases bP:kj ord id 0 with
  | none=>
   simp only[ae];cases fz with
   | false=>exact .undef
   | true=>simp only[nX,cond_true];exact .list (.any fun _=>rfl)
  | some j=>
   obtain ⟨k,rfl,hk⟩:=oq bP;have dM:ord[0+k]? =some id:=by grind
   exact .dX (hR.arr _ id _ _ _ dM ae) ((hR.place _ id dM).trans hb)
 | @whole e id es fz b cap ae hb bd bR hm=>
  simp only[km];cases bP:kj ord id 0 with
  | none=>
   simp only[ae];cases fz with
   | false=>exact .undef
   | true=>
    simp only[nX,cond_true];have hr:=S.h.rel id _ ae;cases hr with
    | ez au=>grind
    | arr hL ao au hh hs hf fO hx=>
     rw[hb] at au;cases au;have:=u7 (I':=I) (off:=0) (len:=es.length) (o:=0) hh hx (fG ao) (by omega) bR (fun _=>by simp) (fun _ _ h=>h) (hT _ _ _ _ ae hb);exact .list (by grind)
  | some j=>
   obtain ⟨k,rfl,hk⟩:=oq bP;have dM:ord[0+k]? =some id:=by grind
   exact .whole (hR.arr _ id _ _ _ dM ae) ((hR.place _ id dM).trans hb) bd bR hm
 | @jb e id fz _ ae hb=>
  simp only[km];cases bP:kj ord id 0 with
  | none=>
   simp only[ae];cases fz with
   | false=>exact .undef
   | true=>simp only[nX,cond_true];exact .list (by simpa using (kP.any (P:=P) fun _=>rfl))
  | some j=>
   obtain ⟨k,rfl,hk⟩:=oq bP;have dM:ord[0+k]? =some id:=by grind
   exact .jb (hR.arr _ id _ _ _ dM ae) ((hR.place _ id dM).trans hb)
 | @sub e id off len es fz b o cap ae hb mK bR ho=>
  simp only[km];cases bP:kj ord id 0 with
  | none=>
   simp only[ae];cases fz with
   | false=>exact .undef
   | true=>
    simp only[nX,cond_true];have hr:=S.h.rel id _ ae;cases hr with
    | ez au=>grind
    | arr hL ao au hh hs hf fO hx=>
     rw[hb] at au;cases au;exact .list (u7 (I':=I) hh hx (fG ao) mK bR ho (fun _ _ h=>h) (hT _ _ _ _ ae hb))
  | some j=>
   obtain ⟨k,rfl,hk⟩:=oq bP;have dM:ord[0+k]? =some id:=by grind
   exact .sub (hR.arr _ id _ _ _ dM ae) ((hR.place _ id dM).trans hb) mK bR ho
 | @ptr id i c b blk ae hd hb=>
  simp only[km];cases bP:kj ord id 0 with
  | none=>exact .undef
  | some j=>
   obtain ⟨k,rfl,hk⟩:=oq bP;have dM:ord[0+k]? =some id:=by grind
   cases blk with
   | dead=>grind
   | var T0 cs=>
    obtain ⟨lE,h'⟩:=hR.var _ id T0 cs dM ae;exact .ptr (blk:= .var T0 lE) h' (by simp) ((hR.place _ id dM).trans hb)
   | arr e es fz=>exact .ptr (blk:= .arr e es fz) (hR.arr _ id _ _ _ dM ae) (by simp) ((hR.place _ id dM).trans hb)
   | nest e es vers=>exact .ptr (blk:= .nest e es (vers.map fun _=>0)) (hR.nest _ id _ _ _ dM ae) (by simp) ((hR.place _ id dM).trans hb)
   | map t es=>exact .ptr (blk:= .map t es) (hR.map _ id _ _ dM ae) (by simp) ((hR.place _ id dM).trans hb)
   | out e es vs i=>exact .mH (hR.out _ id _ _ _ _ dM ae)
 | fk=>exact .fk
 | @lC _ t id ae=>
  simp only[km];cases bP:kj ord id 0 with
  | none=>exact .undef
  | some j=>
   obtain ⟨k,rfl,hk⟩:=oq bP;exact .lC (hR.dead _ id (by grind) ae)
 | @cY t id b es ae hb=>
  simp only[km];cases bP:kj ord id 0 with
  | none=>exact .undef
  | some j=>
   obtain ⟨k,rfl,hk⟩:=oq bP;have dM:ord[0+k]? =some id:=by grind
   exact .cY (hR.map _ id _ _ dM ae) ((hR.place _ id dM).trans hb)
 | @fF e id i es vers b cap ae hb bd bR hm=>
  simp only[km];cases bP:kj ord id 0 with
  | none=>simp only[ae];exact .undef
  | some j=>
   obtain ⟨k,rfl,hk⟩:=oq bP;exact .eb (hR.out _ id _ _ _ _ (by grind) ae)
 | @eh e id vers _ ae hb=>
  simp only[km];cases bP:kj ord id 0 with
  | none=>simp only[ae];exact .undef
  | some j=>
   obtain ⟨k,rfl,hk⟩:=oq bP;have dM:ord[0+k]? =some id:=by grind
   exact .eh (hR.nest _ id _ _ _ dM ae) ((hR.place _ id dM).trans hb)
 | @dP e id es vers b cap ae hb bd bR hm=>
  simp only[km];cases bP:kj ord id 0 with
  | none=>simp only[ae];exact .undef
  | some j=>
   obtain ⟨k,rfl,hk⟩:=oq bP;have dM:ord[0+k]? =some id:=by grind
   exact .dP (hR.nest _ id _ _ _ dM ae) ((hR.place _ id dM).trans hb) bd bR hm
 | @mI v e id ver path blk ae EL=>
  simp only[km];split
  ·rename_i j e1 dn vers h1 h2;rw[ae] at h2;cases h2;cases hc:(Nat.blt 0 path.length&&(Nat.ble path.length vers.length&&Nat.beq (bB vers (path.length-1)) ver)) with
   | false=>exact .undef
   | true=>exact (aa7 hc EL).elim
  ·exact .undef
 | @mJ v id ver i c path blk ae EL=>
  simp only[km];split
  ·rename_i j e1 dn vers h1 h2;rw[ae] at h2;cases h2;cases hc:(Nat.blt 0 path.length&&(Nat.ble path.length vers.length&&Nat.beq (bB vers (path.length-1)) ver)) with
   | false=>exact .undef
   | true=>exact (aa7 hc EL).elim
  ·exact .undef
 | @row v e e0 t id ver b i c q es l vers ae hb hq hv ht hc=>
  simp only[km];split
  ·rename_i j e1 dn w6 h1 h2;obtain ⟨k,rfl,hk⟩:=oq h1;have dM:ord[0+k]? =some id:=by grind
   cases hx:(Nat.blt 0 (q++[(i,c)]).length&&(Nat.ble (q++[(i,c)]).length w6.length&&Nat.beq (bB w6 ((q++[(i,c)]).length-1)) ver)) with
   | false=>exact .undef
   | true=>exact .row (hR.nest _ id _ _ _ dM ae) ((hR.place _ id dM).trans hb) (by grind) (R3 _ _) ht hc
  ·exact .undef
 | @dI e e0 t id ver b b1 len cap i0 c0 i c q es l vers ae hb hq hv ht mL hc=>
  simp only[km];split
  ·rename_i j e1 dn w6 h1 h2;obtain ⟨k,rfl,hk⟩:=oq h1;have dM:ord[0+k]? =some id:=by grind
   cases hx:(Nat.blt 0 (q++[(i0,c0)]).length&&(Nat.ble (q++[(i0,c0)]).length w6.length&&Nat.beq (bB w6 ((q++[(i0,c0)]).length-1)) ver)) with
   | false=>exact .undef
   | true=>exact .dI (hR.nest _ id _ _ _ dM ae) ((hR.place _ id dM).trans hb) (by grind) (R3 _ _) ht mL hc
  ·exact .undef
theorem aa9 (S:aC P w I β hp B M w0) (hT:tD P I β hp) {ord:List Nat} (hR:CI hp β ord hp' β') {vs:Array Value} {xs:List V} (h: ∀(j:Nat) v x,vs[j]? =some v→xs[j]? =some x→aj P w I β hp v x) (j:Nat) (v:Value) (y:V)
  (hv:vs[j]? =some v) (hy:(xs.map (km hp ord))[j]? =some y):aj P w I β' hp' v y:=by
 rw[kf] at hy;cases hx:xs[j]? with
 | none=>grind
 | some x=>rw[hx] at hy;cases hy;exact aa8 S hT hR (h j v x hv hx)
theorem aba (S:aC P w I β hp B M w0) (hT:tD P I β hp) {ord:List Nat} (hR:CI hp β ord hp' β') {kn:Bool} {n:Nat} {v:Value} {x:V} (hv:aj P w I β hp v x) (hF:oP hp' β' n (Bo hp ord kn n x).2):
  aj P w I β' hp' v (Bo hp ord kn n x).1:=by
 cases x with
 | nilS e=>
  cases hv with
  | nilS=>
   cases kn with
   | true=>exact .nilS
   | false=>
    obtain ⟨h1,h2⟩:=hF 0 _ rfl;exact .dX h1 h2
 | fn f a b=>
  cases hv with
  | fn q1 q2 q3 q4=>exact .fn (by grind) (aa9 S hT hR q2) (by grind) (aa9 S hT hR q4)
 | _=>exact aa8 S hT hR hv
end
section
variable {P:Program} {A:dw} {w w':World} {I I' I2:Nat→Nat→Prop} {μ β β':Nat→Option Nat} {hp hp':Nat→Option ah} {C:af} {B:Nat} {M:Nat→Prop} {w0:Start}
theorem oP.left {n:Nat} {a b:List ah} (h:oP hp' β' n (a++b)):oP hp' β' n a:=fun k x hx=>
 h k x (by rw[ng (cC.1 hx).1];exact hx)
theorem oP.right {n:Nat} {a b:List ah} (h:oP hp' β' n (a++b)):oP hp' β' (n+a.length) b:=fun k x hx=>by
 have:=h (a.length+k) x (by rw[oC (by omega),Jq];exact hx);rwa [←wy] at this
def qE (bs:List ah):Prop:= ∀b∈bs,∃e,b= .arr e [] false
theorem qE.app {a b:List ah} (h1:qE a) (h2:qE b):qE (a++b):=fun x hx=>(fb.1 hx).elim (h1 x) (h2 x)
theorem qE.nil:qE []:=fun x hx=>by simp at hx
theorem abb {ord:List Nat} {kn:Bool} {n:Nat} {x:V}:qE (Bo hp ord kn n x).2:=by
 cases x<;>simp only[Bo]<;>first|exact .nil|skip
 cases kn<;>first|exact .nil|skip
 intro b hb;simp only[cond_false,fL] at hb;exact ⟨_,hb⟩
theorem R4 {ord:List Nat} {kn:Bool}: ∀{xs:List V} {n:Nat},qE (ri hp ord kn n xs).2
 | [],n=> .nil
 | x::xs,n=>by
  simp only[ri];exact abb.app R4
theorem Me {ord:List Nat} {kn:Bool}: ∀{xs:List V} {n:Nat},(ri hp ord kn n xs).1.length=xs.length
 | [],n=>rfl
 | x::xs,n=>by simp only[ri,List.length_cons,Me]
theorem Mf (S:aC P w I β hp B M w0) (hT:tD P I β hp) {ord:List Nat} (hR:CI hp β ord hp' β') {kn:Bool}: ∀{xs:List V} {vs:List Value} {n:Nat},(∀(j:Nat) v x,vs[j]? =some v→xs[j]? =some x→aj P w I β hp v x)→
  oP hp' β' n (ri hp ord kn n xs).2→∀(j:Nat) v y,vs[j]? =some v→(ri hp ord kn n xs).1[j]? =some y→aj P w I β' hp' v y
 | [],vs,n,h,hF,j,v,y,hv,hy=>by simp[ri] at hy
 | x::xs,vs,n,h,hF,j,v,y,hv,hy=>by
  simp only[ri] at hF hy;cases j with
  | zero=>
   simp at hy;subst hy;exact aba S hT hR (h 0 v x hv rfl) hF.left
  | succ j=>
   cases vs with
   | nil=>simp at hv
   | cons v0 vs=>exact Mf S hT hR (vs:=vs) (fun j v x hj hx=>h (j+1) v x (by simpa using hj) (by simpa using hx)) hF.right j v y (by simpa using hv) (by simpa using hy)
theorem amw {ord:List Nat} {n:Nat} {x:V}:qE (uX hp ord n x).2:=by
 cases x<;>simp only[uX]<;>first|exact abb|exact R4
theorem amx (S:aC P w I β hp B M w0) (hT:tD P I β hp) {ord:List Nat} (hR:CI hp β ord hp' β') {n:Nat} {v:Value} {x:V} (hv:aj P w I β hp v x) (hF:oP hp' β' n (uX hp ord n x).2):
  aj P w I β' hp' v (uX hp ord n x).1:=by
 cases x with
 | agg cs=>
  obtain ⟨ds,rfl,h1,h2⟩:=hv.np;simp only[uX] at hF⊢;exact .agg (by rw[Me];exact h1) fun j v y hj hy=>Mf S hT hR (vs:=ds.toList) (fun j v x hj hx=>h2 j v x (by simpa using hj) hx) hF j v y (by simpa using hj) hy
 | bf cs=>
  obtain ⟨ds,rfl,h1,h2⟩:=hv.yB;simp only[uX] at hF⊢;exact .bf (by rw[Me];exact h1) fun j v y hj hy=>Mf S hT hR (vs:=ds.toList) (fun j v x hj hx=>h2 j v x (by simpa using hj) hx) hF j v y (by simpa using hj) hy
 | _=>exact aba S hT hR hv hF
theorem abc {ord:List Nat} {sl:Nat→V}: ∀{l:List Nat} {n:Nat},qE (pf hp ord sl n l).2
 | [],n=> .nil
 | s::l,n=>by
  simp only[pf];exact amw.app abc
theorem abd {ord:List Nat} {sl:Nat→V} {k:Nat} {y:V}: ∀{l:List Nat} {n:Nat},oP hp' β' n (pf hp ord sl n l).2→fM (pf hp ord sl n l).1 k=some y→
  ∃n',oP hp' β' n' (uX hp ord n' (sl k)).2∧y=(uX hp ord n' (sl k)).1
 | [],n,_,h=>by cases h
 | s::l,n,hF,h=>by
  simp only[pf] at hF h;simp only[fM] at h;cases hb:Nat.beq k s with
  | true=>
   rw[hb] at h;rw[aM] at hb;subst hb;cases h;exact ⟨n,hF.left,rfl⟩
  | false=>
   rw[hb] at h;exact abd hF.right h
theorem amy {ord kp:List Nat} {n id:Nat}:qE (gx hp ord kp n id).2:=by
 unfold gx;split
 ·exact R4
 ·exact .nil
 ·exact .nil
 ·exact .nil
 ·exact .nil
theorem abe {ord kp:List Nat}: ∀{l:List Nat} {n:Nat},qE (jl hp ord kp n l).2
 | [],n=> .nil
 | s::l,n=>by
  simp only[jl];exact amy.app abe
theorem abf {ord kp:List Nat}: ∀{l:List Nat} {n:Nat},(jl hp ord kp n l).1.length=l.length
 | [],n=>rfl
 | x::xs,n=>by simp only[jl,List.length_cons,abf]
theorem abg {ord kp:List Nat}: ∀{l:List Nat} {n j:Nat} {id:Nat},l[j]? =some id→∃n',(oP hp' β' n (jl hp ord kp n l).2→oP hp' β' n' (gx hp ord kp n' id).2)∧(jl hp ord kp n l).1[j]? =some (gx hp ord kp n' id).1
 | [],n,j,id,h=>by simp at h
 | s::l,n,j,id,h=>by
  simp only[jl];cases j with
  | zero=>
   simp at h;subst h;exact ⟨n,fun hF=>hF.left,rfl⟩
  | succ j=>
   obtain ⟨n',h1,h2⟩:=abg (n:=n+(gx hp ord kp n s).2.length) (j:=j) (by simpa using h);exact ⟨n',fun hF=>h1 hF.right,by simpa using h2⟩
theorem GL: ∀{l acc:List Nat},∃t,wR hp acc l=acc++t∧(acc.Nodup→(acc++t).Nodup)
 | [],acc=>⟨[],by simp[wR],by simp⟩
 | id::l,acc=>by
  simp only[wR];cases hb:(iN acc id|| !(Pk hp id)) with
  | true=>exact GL
  | false=>
   obtain ⟨t,h1,h2⟩:=GL (l:=l) (acc:=acc++[id]);refine ⟨id::t,by simp only[cond_false,h1,kJ,List.singleton_append],fun hn=> ?_⟩;have:acc++id::t=(acc++[id])++t:=by simp
   rw[this];refine h2 ?_;rw[Eb];refine ⟨hn,by simp,fun a ha b au=> ?_⟩;simp only[fL] at au;subst au;intro e;subst e;rw[yG ha] at hb;cases hb
theorem abh: ∀{n:Nat} {l:List Nat},∃t,grow hp n l=l++t∧(l.Nodup→(l++t).Nodup)
 | 0,l=>⟨[],by simp[grow],by simp⟩
 | n+1,l=>by
  simp only[grow];obtain ⟨t,h1,h2⟩:=GL (hp:=hp) (acc:=l) (l:=l.flatMap (ym hp));rw[h1];obtain ⟨t',h3,h4⟩:=abh (n:=n) (l:=l++t);exact ⟨t++t',by rw[h3,kJ],fun hn=>by rw[←kJ];exact h4 (h2 hn)⟩
theorem amz {m:Nat} {live:List Nat} {st:St}: ∃t,Pl m live st=List.range m++t∧(List.range m++t).Nodup:=by
 unfold Pl;obtain ⟨t,h1,h2⟩:=GL (hp:=st.hp) (acc:=List.range m) (l:=live.flatMap fun s=>Bn (st.sl s));rw[h1];obtain ⟨t',h3,h4⟩:=abh (hp:=st.hp) (n:=3) (l:=List.range m++t);rw[h3];obtain ⟨t2,h5,h6⟩:=GL (hp:=WZ st.hp) (acc:=List.range m++t++t') (l:=live.flatMap fun s=>bif Nat.ble (3*KB) s then ym st.hp (s-3*KB) else bif Nat.ble KB s then (Bn (st.sl (s-KB))).flatMap (ym st.hp) else []);exact ⟨t++t'++t2,by rw[h5];simp only[kJ],by simp only[←kJ];exact h6 (h4 (h2 List.nodup_range))⟩
end
end Go.AM
